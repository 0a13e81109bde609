/- Laws that the claim stands on; no condition beyond those stated. -/
import Derived.Test.YtibkjjklfhfipabGreatDoorDNa
namespace Go.Lf
open Go.OB
def okN (c:Cond):Prop:=okS c.Name/\okS c.Other
theorem len_k (n:Nat) (k:Int):(!(decide (k<=(n:Int))&&decide ((n:Int)<=k)))=decide ((n:Int)≠k):=by
 by_cases h:(n:Int)=k;simp [h];by_cases a:k<=(n:Int);by_cases b:(n:Int)<=k;omega;simp [h,a,b];simp [h,a]
theorem len_2 {n:Nat}(a:n<=200):(!(decide (2<=(n:Int))&&decide ((n:Int)<=200)))=decide ((n:Int)<2):=by
 rw [Bool.eq_iff_iff];simp only [Bool.not_eq_true',Bool.and_eq_false_iff,decide_eq_false_iff_not,decide_eq_true_eq];omega
section
variable (nm ot:Str) (op n fr:Int) (ks:List Cond)
theorem fo1:Faf 1=some (⟨false,false,false,false,false,0,0⟩,true):=rfl
theorem rf1:Fag 1=some (false,false,false,false,false,0):=rfl
theorem fo2:Faf 2=some (⟨false,false,false,false,false,0,0⟩,true):=rfl
theorem rf2:Fag 2=some (false,false,false,false,false,0):=rfl
theorem fo3:Faf 3=some (⟨true,false,true,true,false,0,0⟩,true):=rfl
theorem rf3:Fag 3=some (true,false,true,true,false,0):=rfl
theorem fo4:Faf 4=some (⟨true,true,true,false,false,0,0⟩,true):=rfl
theorem rf4:Fag 4=some (true,true,true,false,false,0):=rfl
theorem fo5:Faf 5=some (⟨true,false,false,true,true,0,0⟩,true):=rfl
theorem rf5:Fag 5=some (true,false,false,true,true,0):=rfl
theorem fo6:Faf 6=some (⟨true,false,false,false,false,0,0⟩,true):=rfl
theorem rf6:Fag 6=some (true,false,false,false,false,0):=rfl
theorem fo7:Faf 7=some (⟨true,false,false,false,false,0,0⟩,true):=rfl
theorem rf7:Fag 7=some (true,false,false,false,false,0):=rfl
theorem fo8:Faf 8=some (⟨false,false,false,false,false,1,1⟩,true):=rfl
theorem rf8:Fag 8=some (false,false,false,false,false,1):=rfl
theorem fo9:Faf 9=some (⟨false,false,false,false,false,2,200⟩,true):=rfl
theorem rf9:Fag 9=some (false,false,false,false,false,(-1)):=rfl
theorem fo10:Faf 10=some (⟨false,false,false,false,false,2,200⟩,true):=rfl
theorem rf10:Fag 10=some (false,false,false,false,false,(-1)):=rfl
theorem fo11:Faf 11=some (⟨false,false,false,false,true,1,1⟩,true):=rfl
theorem rf11:Fag 11=some (false,false,false,false,true,1):=rfl
theorem fo12:Faf 12=some (⟨false,false,false,false,true,1,1⟩,true):=rfl
theorem rf12:Fag 12=some (false,false,false,false,true,1):=rfl
theorem fo13:Faf 13=some (⟨false,false,false,true,true,1,1⟩,true):=rfl
theorem rf13:Fag 13=some (false,false,false,true,true,1):=rfl
theorem fo14:Faf 14=some (⟨false,false,false,false,false,2,2⟩,true):=rfl
theorem rf14:Fag 14=some (false,false,false,false,false,2):=rfl
theorem fo15:Faf 15=some (⟨false,false,false,false,false,1,1⟩,true):=rfl
theorem rf15:Fag 15=some (false,false,false,false,false,1):=rfl
set_option maxHeartbeats 20000000 in
theorem chk_in (k:Int)(hk2:k=1\/k=2\/k=3\/k=4\/k=5\/k=6\/k=7\/k=8\/k=9\/k=10\/k=11\/k=12\/k=13\/k=14\/k=15)(h1:okS nm)(h2:okS ot)(hk:ks.length<=200):Fay ⟨k,nm,ot,op,n,fr,ks⟩=Fah ⟨k,nm,ot,op,n,fr,ks⟩/\ ∃r,Fah ⟨k,nm,ot,op,n,fr,ks⟩=some r:=by
  have hb:(decide (1<=fr) && decide (fr<=4096))=true->(decide (1<=n) && decide (n<=fr))=true->(decide (-1125899906842624<=n) && decide (n<=1125899906842624))=true:=by
    simp only [Bool.and_eq_true,decide_eq_true_eq]; omega
  rcases hk2 with rfl | rfl | rfl | rfl | rfl | rfl | rfl | rfl | rfl | rfl | rfl | rfl | rfl | rfl | rfl<;>
    (unfold Fay Fah
     simp only [fo1,fo2,fo3,fo4,fo5,fo6,fo7,fo8,fo9,fo10,fo11,fo12,fo13,fo14,fo15,rf1,rf2,rf3,rf4,rf5,rf6,rf7,rf8,rf9,rf10,rf11,rf12,rf13,rf14,rf15,zA,zG,Bool.not_true,Bool.not_false,zS,zM,xG,out6,aRn,uG _ h1,aZ _ h1,uG _ h2,aZ _ h2,Int.reduceEq,Int.reduceLT,Int.reduceLE,decide_true,decide_false,Bool.or_self,aJc,aP,vH];simp only [aCn,len_k,len_2 hk];generalize (decide (1<=op) && decide (op<=6))=b1;generalize (decide (1<=fr) && decide (fr<=4096))=b2 at hb ⊢;generalize (decide (1<=n) && decide (n<=fr))=b3 at hb ⊢;generalize (decide (-1125899906842624<=n) && decide (n<=1125899906842624))=b4 at hb ⊢;simp only [kS]
     grind)
end
theorem aXg (c:Cond) (h: ¬(1<=c.Kind/\c.Kind<=15)):Fay c=some 7/\Fah c=some 7:=by
 have e: ∀k:Int,1<=k->k<=15->decide (c.Kind=k)=false:=λk _ _=>qD (by omega)
 constructor
 ·unfold Fay Faf;simp only [zG,e 1 (by decide) (by decide),e 2 (by decide) (by decide),e 3 (by decide) (by decide),e 4 (by decide) (by decide),e 5 (by decide) (by decide),e 6 (by decide) (by decide),e 7 (by decide) (by decide),e 8 (by decide) (by decide),e 9 (by decide) (by decide),e 10 (by decide) (by decide),e 11 (by decide) (by decide),e 12 (by decide) (by decide),e 13 (by decide) (by decide),e 14 (by decide) (by decide),e 15 (by decide) (by decide),zM,zA,Bool.not_false,zS]
 ·unfold Fah;rw [out6,zA,aCn];have q:(decide (1<=c.Kind)&&decide (c.Kind<=15))=false:=by
   rw [Bool.and_eq_false_iff,decide_eq_false_iff_not,decide_eq_false_iff_not];omega
  rw [q];rfl
def ck1 (c:Cond):Int:=(Fah c).getD 0
theorem aIx (c:Cond) (h:okN c) (j:c.Kids.length<=200):Fay c=some (ck1 c)/\Fah c=some (ck1 c):=by
 have b:Fay c=Fah c/\ ∃r,Fah c=some r:=by
  by_cases d:1<=c.Kind/\c.Kind<=15
  ·obtain⟨k,nm,ot,op,n,fr,ks⟩:=c;have f:k=1\/k=2\/k=3\/k=4\/k=5\/k=6\/k=7\/k=8\/k=9\/k=10\/k=11\/k=12\/k=13\/k=14\/k=15:=by have:=d.1;have:=d.2;simp only at *;omega
   exact chk_in nm ot op n fr ks k f h.1 h.2 j
  ·obtain⟨i,a⟩:=aXg c d;exact⟨i.trans a.symm,_,a⟩
 obtain⟨i,r,a⟩:=b;have e:ck1 c=r:=by unfold ck1;rw [a];rfl
 rw [e,i];exact⟨a,a⟩
mutual
def cN:Cond->Nat
 |⟨_,_,_,_,_,_,ks⟩=>1+cNs ks
def cNs:List Cond->Nat
 | []=>0
 |c::l=>cN c+cNs l
end
mutual
def dN:Cond->Nat
 |⟨_,_,_,_,_,_,ks⟩=>1+dNs ks
def dNs:List Cond->Nat
 | []=>0
 |c::l=>max (dN c) (dNs l)
end
mutual
def okC:Cond->Prop
 |⟨k,nm,ot,op,n,fr,ks⟩=>(i64 k/\okS nm/\okS ot/\i64 op/\i64 n/\i64 fr)/\ks.length<=9223372036854775807/\okCs ks
def okCs:List Cond->Prop
 | []=>True
 |c::l=>okC c/\okCs l
end
mutual
def fE (f:Cond->Int):Cond->Int
 |⟨k,nm,ot,op,n,fr,ks⟩=>if f ⟨k,nm,ot,op,n,fr,ks⟩=0 then fEs f ks else f ⟨k,nm,ot,op,n,fr,ks⟩
def fEs (f:Cond->Int):List Cond->Int
 | []=>0
 |c::l=>if fE f c=0 then fEs f l else fE f c
end
theorem wP (c:Cond):cN c=1+cNs c.Kids:=by cases c;rfl
theorem aOv (c:Cond):dN c=1+dNs c.Kids:=by cases c;rfl
theorem aKy (f:Cond->Int)(c:Cond):fE f c=if f c=0 then fEs f c.Kids else f c:=by cases c;rfl
theorem jP (c:Cond):okC c↔(i64 c.Kind/\okS c.Name/\okS c.Other/\i64 c.Op/\i64 c.N/\i64 c.Frames)/\c.Kids.length<=9223372036854775807/\okCs c.Kids:=by cases c;rfl
theorem wZ: ∀(l:List Cond),okCs l↔ ∀c∈l,okC c
 | []=>by simp [okCs]
 |c::l=>by rw [okCs,wZ l];simp
theorem cN_pos (c:Cond):1<=cN c:=by rw [wP];omega
theorem qZ (c:Cond):1<=dN c:=by rw [aOv];omega
theorem aCs: ∀l:List Cond,l.length<=cNs l
 | []=>Nat.le_refl _
 |c::l=>by have:=aCs l;have:=cN_pos c;rw [cNs,List.length_cons];omega
theorem bAy {c:Cond}: ∀{l:List Cond},c∈l->cN c<=cNs l
 |a::l,h=>by
  rw [cNs];rcases List.mem_cons.1 h with rfl|h
  ·omega
  ·have:=bAy h;omega
theorem aJd {c:Cond}: ∀{l:List Cond},c∈l->dN c<=dNs l
 |a::l,h=>by
  rw [dNs];rcases List.mem_cons.1 h with rfl|h
  ·omega
  ·have:=aJd h;omega
theorem bAi {n:Nat}: ∀{l:List Cond},n<dNs l-> ∃x,x∈l/\n<dN x
 | [],h=>by simp [dNs]at h
 |a::l,h=>by
  rw [dNs]at h
  by_cases q:n<dN a
  ·exact⟨a,List.mem_cons_self,q⟩
  ·obtain⟨x,b,c⟩:=bAi (l:=l) (n:=n) (by omega);exact⟨x,List.mem_cons_of_mem _ b,c⟩
def stS (b:Cond->Int->Int->Option (Bool×Int))(l:Int):Nat->Cond->Int->Int ⊕ Option (Bool×Int):=λ_ x s=>match b x l s with
 |none=> .inr none
 |some (true,a)=> .inl a
 |some (false,a)=> .inr (some (false,a))
theorem aLf (d:Cond->Int->Int->Option (Bool×Int)) (l:Nat):
  ∀(ks:List Cond) (_: ∀c∈ks,∀k:Nat,k<=200-> ∃b:Nat,d c (l:Int) (k:Int)=some (decide (dN c<=l/\k+cN c<=200),(b:Int))/\(dN c<=l/\k+cN c<=200->b=k+cN c)) (i k:Nat),k<=200-> ∃b:Nat,aDu (stS d l) (λs=>some (true,s)) ks i (k:Int)=some (decide (dNs ks<=l/\k+cNs ks<=200),(b:Int))/\(dNs ks<=l/\k+cNs ks<=200->b=k+cNs ks)
 | [],_,i,k,e=>⟨k,by simp [aDu,dNs,cNs,e],λ_=>by simp [cNs]⟩
 |c::ks,f,i,k,e=>by
  obtain⟨j,o,p⟩:=f c List.mem_cons_self k e;rw [aDu];simp only [stS,o]
  by_cases a:dN c<=l/\k+cN c<=200
  ·obtain rfl:=p a;obtain⟨q,r,t⟩:=aLf d l ks (λc a=>f c (List.mem_cons_of_mem _ a)) (i+1) (k+cN c) a.2;rw [dT a];refine⟨q,?_,?_⟩
   ·simp only [];rw [r]
    congr 2
    rw [decide_eq_decide,dNs,cNs];have:=a.1;omega
   ·rw [dNs,cNs];intro h;rw [t (by omega)];omega
  ·rw [qD a];refine⟨j,?_,?_⟩
   ·simp only []
    congr 2
    refine(qD ?_).symm;rw [dNs,cNs];omega
   ·rw [dNs,cNs];intro h;exfalso;omega
theorem bBd: ∀(n:Nat) (c:Cond) (l k:Nat),l<n->k<=200->l<=1000->okC c-> ∃d:Nat,Faw n c (l:Int) (k:Int)=some (decide (dN c<=l/\k+cN c<=200),(d:Int))/\(dN c<=l/\k+cN c<=200->d=k+cN c)
 |0,_,_,_,h,_,_,_=>by omega
 |n+1,c,l,k,h,j,z,o=>by
  have a:=((jP c).1 o).2.1;have f:=(wZ _).1 ((jP c).1 o).2.2;have p:IntKind.i64.wrap ((k:Int)+1)=((k+1:Nat):Int):=fP (n:=1000) (by omega) (by omega);show ∃d:Nat,Fcm (Faw n) c (l:Int) (k:Int)=_/\_;unfold Fcm;simp only [zG,xG,aP,zA,p];have hd:=aOv c;have A:=wP c
  by_cases t:l=0
  ·subst t;refine⟨k+1,?_,λq=>by exfalso;omega⟩;rw [dT (show((0:Nat):Int)=0 from rfl),Bool.true_or,zS,qD (by omega)]
  ·by_cases B:200<k+1
   ·refine⟨k+1,?_,λq=>by exfalso;omega⟩;rw [dT (show(200:Int)<((k+1:Nat):Int)by omega),Bool.or_true,zS,qD (by omega)]
   ·rw [qD (show¬(l:Int)=0 by omega),qD (show¬(200:Int)<((k+1:Nat):Int)by omega),Bool.or_self,zM];obtain⟨m,rfl⟩: ∃m,l=m+1:=⟨l-1,by omega⟩;have u:IntKind.i64.wrap (((m+1:Nat):Int)-1)=(m:Int):=by rw [wrap_i64 (by omega) (by omega)];omega
    obtain⟨d,v,w⟩:=aLf (Faw n) m c.Kids (λx e k j=>bBd n x m k (by omega) j (by omega) (f x e)) 0 (k+1) (by omega);refine⟨d,?_,?_⟩
    ·unfold Ffw;simp only [zG,u];refine(uO (λ(i:Nat) (s:Int)=>((i:Int),s)) c.Kids (stS (Faw n) m) (λs=>some (true,s)) a ?_ ?_ ((k+1:Nat):Int)).trans (v.trans ?_)
     rotate_left 2
     ·congr 2
      rw [decide_eq_decide];omega
     ·intro y i s x e;have hi:=(gS.1 e).1;simp only [stS];rw [yP hi,zS,yH e,zA,fP hi a]
      cases Faw n x m s with
      |none=>rfl
      |some r=>obtain⟨b,_⟩:=r;cases b<;>rfl
     ·intro y s;simp only [];rw [yO,zM]
    ·intro q;rw [w (by omega)];omega
theorem aAs {n:Nat}(h:n<=1000000):n<FU:=jO (by omega)
theorem small_eq (c:Cond)(b:okC c): ∃a:Int,Fdo c 20 0=some (decide (dN c<=20/\cN c<=200),a):=by
 obtain⟨a,d,_⟩:=bBd FU c 20 0 (aAs (by decide)) (by decide) (by decide) b;refine⟨a,?_⟩;unfold Fdo;refine d.trans ?_;rw [Nat.zero_add]
theorem bBg: ∀(n:Nat) (c:Cond) (m:Nat),m<n->m<=1000->okC c->Fax n c (m:Int)=some ((min (cN c) (m+1):Nat):Int)
 |0,_,_,h,_,_=>by omega
 |n+1,c,m,h,hm,C=>by
  have v:=((jP c).1 C).2.1;have y:=(wZ _).1 ((jP c).1 C).2.2;show Fde (Fax n) c (m:Int)=_;unfold Fde Fgr;have e:fD (λa (x:Int×Int)=>gB (gJ (c.Kids.length:Int) λb=>gJ (decide (x.2<b)) λj=>gQ j (gJ (decide (x.1<=(m:Int))) λk=>some k) (some false)) λl=>gQ l
    (gB (at' c.Kids x.2) λp=>gJ (IntKind.i64.wrap ((m:Int)-x.1)) λq=>gB (Fax n p q) λr=>gJ (IntKind.i64.wrap (x.1+r)) λt=>gJ (IntKind.i64.wrap (x.2+1)) λu=>a (t,u)) (some x.1)) (1,0)=some ((min (1+cNs c.Kids) (m+1):Nat):Int):=by
   have z: ∀(d i s w:Nat),i+d=c.Kids.length->d<w->1<=s->s<=m+1->eP (λa (x:Int×Int)=>gB (gJ (c.Kids.length:Int) λb=>gJ (decide (x.2<b)) λj=>gQ j (gJ (decide (x.1<=(m:Int))) λk=>some k) (some false)) λl=>gQ l
    (gB (at' c.Kids x.2) λp=>gJ (IntKind.i64.wrap ((m:Int)-x.1)) λq=>gB (Fax n p q) λr=>gJ (IntKind.i64.wrap (x.1+r)) λt=>gJ (IntKind.i64.wrap (x.2+1)) λu=>a (t,u)) (some x.1)) w ((s:Int),(i:Int))=some ((min (s+cNs (c.Kids.drop i)) (m+1):Nat):Int):=by
    intro d
    induction d with
    |zero=>
     intro i s w D E F G;obtain⟨f,rfl⟩: ∃f,w=f+1:=⟨w-1,by omega⟩;obtain rfl:i=c.Kids.length:=by omega
     rw [eP];simp only [zG,yO,zM,zA,List.drop_length,cNs]
     congr 2;omega
    |succ d H=>
     intro i s w D E F G;obtain⟨f,rfl⟩: ∃f,w=f+1:=⟨w-1,by omega⟩;have hi:i<c.Kids.length:=by omega
     obtain⟨x,A⟩: ∃x,c.Kids[i]? =some x:=⟨_,gE hi⟩;have I:c.Kids.drop i=x::c.Kids.drop (i+1):=by
      rw [List.drop_eq_getElem_cons hi]
      congr 1
      exact oI ((gE hi).symm.trans A)
     rw [eP,I,cNs];simp only [zG,yP hi,zS,zA,yH A]
     by_cases K:s<=m
     ·have J:IntKind.i64.wrap ((m:Int)-(s:Int))=((m-s:Nat):Int):=by rw [wrap_i64 (by omega) (by omega)];omega
      rw [dT (show(s:Int)<=(m:Int)by omega),zS,J,bBg n x (m-s) (by omega) (by omega) (y x (qS A)),zA];have B:IntKind.i64.wrap ((s:Int)+((min (cN x) (m-s+1):Nat):Int))=((s+min (cN x) (m-s+1):Nat):Int):=by rw [wrap_i64 (by omega) (by omega)];omega
      rw [B,fP hi v];refine(H (i+1) _ f (by omega) (by omega) (by omega) (by omega)).trans ?_
      congr 2;omega
     ·rw [qD (show¬(s:Int)<=(m:Int)by omega),zM]
      congr 2;omega
   exact z c.Kids.length 0 1 FU (by omega) (jO v) (by omega) (by omega)
  refine(congrArg (λo=>gB o λg=>some g) e).trans ?_;rw [wP];rfl
theorem aSl: ∀(n:Nat) (c:Cond) (m:Nat),m<n->m<=1000->okC c->Fbr n c (m:Int)=some (decide (m<dN c))
 |0,_,_,h,_,_=>by omega
 |n+1,c,m,h,hm,f=>by
  have a:=((jP c).1 f).2.1;have d:=(wZ _).1 ((jP c).1 f).2.2;have hd:=aOv c;show Fcr (Fbr n) c (m:Int)=_;unfold Fcr;simp only [zG,xG]
  cases m with
  |zero=>rw [dT (show((0:Nat):Int)=0 from rfl),zS,dT (by omega)]
  |succ m=>
   rw [qD (show¬((m+1:Nat):Int)=0 by omega),zM];have p:IntKind.i64.wrap (((m+1:Nat):Int)-1)=(m:Int):=by rw [wrap_i64 (by omega) (by omega)];omega
   unfold Fgc;simp only [zG,p];rw [xA c.Kids (λ_ x=>if decide (m<dN x)=true then some (some true)else none) (some false) a ?_ ?_]
   ·rw [uH (λ_ x=>decide (m<dN x))]
    by_cases q:m+1<dN c
    ·rw [dT q,if_pos];rw [aBb];obtain⟨x,b,o⟩:=bAi (l:=c.Kids) (n:=m) (by omega);obtain⟨j,e⟩:=List.getElem?_of_mem b;exact⟨j,x,e,dT o⟩
    ·rw [qD q,if_neg];rw [aBb];rintro⟨j,x,e,b⟩;have r:=aJd (qS e);have o:=of_decide_eq_true b;omega
   ·intro k _ x b hi;rw [yP hi,zS,yH b,zA,aSl n x m (by omega) (by omega) (d x (qS b)),zA,fP hi a]
    cases decide (m<dN x)<;>rfl
   ·intro k;rw [yO,zM]
theorem nodes_eq (c:Cond)(a:okC c):Fgo c 200=some ((min (cN c) 201:Nat):Int):=bBg FU c 200 (aAs (by decide)) (by decide) a
theorem deeper_eq (c:Cond)(a:okC c):Fgb c 20=some (decide (20<dN c)):=aSl FU c 20 (aAs (by decide)) (by decide) a
theorem aGy {c:Cond}(a:okC c):okN c:=⟨((jP c).1 a).1.2.1,((jP c).1 a).1.2.2.1⟩
theorem aEm (f:Cond->Int): ∀(l:List Cond) (i:Nat),cZ (λ_ x=>if fE f x=0 then none else some (some (fE f x))) (some 0) l i=some (fEs f l)
 | [],_=>rfl
 |c::l,i=>by
  rw [cZ,fEs]
  by_cases h:fE f c=0
  ·rw [if_pos h,if_pos h];exact aEm f l (i+1)
  ·rw [if_neg h,if_neg h]
theorem rF {c x:Cond}{i:Nat}(a:okC c)(b:c.Kids[i]? =some x):okC x/\dN x<dN c/\cN x<cN c:=by
 have hm:=qS b;have d:=aJd hm;have e:=bAy hm;exact⟨(wZ _).1 ((jP c).1 a).2.2 x hm,by rw [aOv c];omega,by rw [wP c];omega⟩
theorem aZn: ∀(n:Nat) (c:Cond),dN c<=n->okC c->cN c<=200->Fbz n c=some (fE ck1 c)
 |0,c,h,_,_=>by have:=qZ c;omega
 |n+1,c,h,b,_=>by
  have a:=((jP c).1 b).2.1;have f:=aCs c.Kids;have j:=wP c;show Fcb (Fbz n) c=_;unfold Fcb;rw [(aIx c (aGy b) (by omega)).1,zA,aKy];simp only [zG,xG]
  by_cases e:ck1 c=0
  ·rw [if_pos e,qD (by simpa using e),zM];unfold Fg1;rw [xA c.Kids (λ_ x=>if fE ck1 x=0 then none else some (some (fE ck1 x))) (some 0) a ?_ ?_,aEm]
   ·intro k _ x d hi;obtain⟨l,_,_⟩:=rF b d;simp only [zG];rw [yP hi,zS,yH d,zA,aZn n x (by omega) l (by omega),zA,fP hi a]
    by_cases z:fE ck1 x=0
    ·rw [if_pos z,qD (by simpa using z),zM]
    ·rw [if_neg z,dT z,zS]
   ·intro k;simp only [zG];rw [yO,zM]
  ·rw [if_neg e,dT e,zS]
theorem bBs: ∀(n:Nat) (c:Cond),dN c<=n->okC c->cN c<=200->Fba n c=some (fE ck1 c)
 |0,c,h,_,_=>by have:=qZ c;omega
 |n+1,c,h,u,_=>by
  have a:=((jP c).1 u).2.1;have A:=aCs c.Kids;have C:=wP c;show Fce (Fba n) c=_;unfold Fce;rw [(aIx c (aGy u) (by omega)).2,zA,aKy];have v: ∀(B:(Int×Int->Option Int)->Int×Int->Option Int) (_: ∀k (e i:Int),B k (e,i)=gB (gJ (c.Kids.length:Int) λj=>gJ (decide (i<j)) λl=>gQ l (gJ (decide (e=0)) λp=>some p) (some false)) λq=>gQ q (gB (at' c.Kids i) λr=>gB (Fba n r) λs=>gJ (IntKind.i64.wrap (i+1)) λt=>k (s,t)) (some e)) (d i:Nat) (e:Int) (b:Nat),i+d=c.Kids.length->d<b->eP B b (e,(i:Int))=some (if e=0 then fEs ck1 (c.Kids.drop i)else e):=by
   intro B y d
   induction d with
   |zero=>
    intro i e b D E;obtain⟨f,rfl⟩: ∃f,b=f+1:=⟨b-1,by omega⟩;obtain rfl:i=c.Kids.length:=by omega
    rw [eP,y];simp only [zG,yO,zM,zA,List.drop_length,fEs];split<;>simp_all
   |succ d F=>
    intro i e b D E;obtain⟨f,rfl⟩: ∃f,b=f+1:=⟨b-1,by omega⟩;have hi:i<c.Kids.length:=by omega
    obtain⟨x,w⟩: ∃x,c.Kids[i]? =some x:=⟨_,gE hi⟩;have G:c.Kids.drop i=x::c.Kids.drop (i+1):=by
     rw [List.drop_eq_getElem_cons hi]
     congr 1
     exact oI ((gE hi).symm.trans w)
    obtain⟨H,_,_⟩:=rF u w;rw [eP,y,G,fEs];simp only [zG,yP hi,zS,zA,yH w]
    by_cases z:e=0
    ·rw [dT z,zS,bBs n x (by omega) H (by omega),zA,fP hi a,F (i+1) _ f (by omega) (by omega),if_pos z]
    ·rw [qD z,zM,if_neg z]
  unfold Fhi fD;refine(congrArg (λo=>gB o λg=>some g) (v _ (λ_ _ _=>rfl) c.Kids.length 0 (ck1 c) FU (by omega) (jO a))).trans ?_;rw [zA,List.drop_zero]
def ckC (c:Cond):Int:=if dN c<=20/\cN c<=200 then fE ck1 c else 3
theorem aFn (c:Cond) (a:okC c):Fcg c=some (ckC c):=by
 unfold Fcg ckC;obtain⟨_,h⟩:=small_eq c a;rw [h,zA];simp only [zG];by_cases q:dN c<=20/\cN c<=200;rw [if_pos q,dT q,Bool.not_true,zM];unfold Fg9;rw [aZn FU c (Nat.le_of_lt (aAs (by omega))) a q.2];rfl;rw [if_neg q,qD q,Bool.not_false,zS]
theorem aDc (c:Cond) (a:okC c):Fbc c=some (ckC c):=by
 unfold Fbc ckC;rw [nodes_eq c a,zA];simp only [zG];rw [deeper_eq c a,zA,aP,zA]
 by_cases q:dN c<=20/\cN c<=200
 ·have b:decide ((200:Int)<((min (cN c) 201:Nat):Int))=false:=qD (by omega);have d:decide (20<dN c)=false:=qD (by omega);rw [if_pos q,b,d,Bool.or_self,zM];unfold Ffc;rw [bBs FU c (Nat.le_of_lt (aAs (by omega))) a q.2];rfl
 ·have e:(decide ((200:Int)<((min (cN c) 201:Nat):Int))||decide (20<dN c))=true:=by
   rw [Bool.or_eq_true,decide_eq_true_eq,decide_eq_true_eq];omega
  rw [if_neg q,e,zS]
theorem aBt {c:Cond}(h:ckC c=0):dN c<=20/\cN c<=200/\fE ck1 c=0:=by
 unfold ckC at h;split at h;rename_i q;exact⟨q.1,q.2,h⟩;exact absurd h (by decide)
section
variable {α:Type}
theorem aEy (p:α->Bool): ∀(l:List α) (i:Nat),∃n:Int,cZ (λ(i:Nat) x=>if p x=true then some (some (i:Int))else none) (some (-1)) l i=some n/\
  ((n= -1/\ ∀(j:Nat) x,l[j]? =some x->p x=false)\/ ∃j:Nat,n=((i+j:Nat):Int)/\(∃x,l[j]? =some x/\p x=true)/\ ∀(m:Nat) y,m<j->l[m]? =some y->p y=false)
 | [],i=>⟨-1,rfl,.inl ⟨rfl,λj x h=>by simp at h⟩⟩
 |a::l,i=>by
  rw [cZ]
  by_cases h:p a=true
  ·rw [if_pos h];exact⟨_,rfl,.inr ⟨0,by simp,⟨a,rfl,h⟩,λm y hm=>by omega⟩⟩
  ·rw [if_neg h];have f:p a=false:=by simpa using h
   obtain⟨n,k,b⟩:=aEy p l (i+1);refine⟨n,k,?_⟩;rcases b with ⟨b,c⟩|⟨j,b,c,o⟩
   ·refine .inl ⟨b,λj x d=>?_⟩
    cases j with
    |zero=>simp at d;subst d;exact f
    |succ j=>exact c j x (by simpa using d)
   ·refine .inr ⟨j+1,by rw [b];congr 1;omega,?_,λm y hm e=>?_⟩
    ·obtain⟨x,q,r⟩:=c;exact⟨x,by simpa using q,r⟩
    ·cases m with
     |zero=>simp at e;subst e;exact f
     |succ m=>exact o m y (by omega) (by simpa using e)
theorem bBv (p:α->Bool)(l:List α):l.any p=true↔ ∃(j:Nat) (x:α),l[j]? =some x/\p x=true:=by
 rw [List.any_eq_true];constructor;rintro⟨x,h,a⟩;obtain⟨j,b⟩:=List.getElem?_of_mem h;exact⟨j,x,b,a⟩;rintro⟨j,x,h,a⟩;exact⟨x,qS h,a⟩
theorem aXb {p:α->Bool}{l:List α}{n:Int} (h:(n= -1/\ ∀(j:Nat) x,l[j]? =some x->p x=false)\/ ∃j:Nat,n=((0+j:Nat):Int)/\(∃x,l[j]? =some x/\p x=true)/\ ∀(m:Nat) y,m<j->l[m]? =some y->p y=false):decide (0<=n)=l.any p:=by
 rw [Bool.eq_iff_iff,decide_eq_true_eq,bBv];rcases h with ⟨rfl,h⟩|⟨j,rfl,⟨x,b,a⟩,_⟩
 ·constructor
  ·intro h;omega
  ·rintro⟨j,x,b,a⟩;rw [h j x b]at a;cases a
 ·exact⟨λ_=>⟨j,x,b,a⟩,λ_=>by omega⟩
theorem ix_take {p:α->Bool}{l:List α}{n:Int} (h:(n= -1/\ ∀(j:Nat) x,l[j]? =some x->p x=false)\/ ∃j:Nat,n=((0+j:Nat):Int)/\(∃x,l[j]? =some x/\p x=true)/\ ∀(m:Nat) y,m<j->l[m]? =some y->p y=false) (i:Nat):decide (0<=n/\n<(i:Int))=(l.take i).any p:=by
 rw [Bool.eq_iff_iff,decide_eq_true_eq,bBv];rcases h with ⟨rfl,h⟩|⟨j,rfl,⟨x,a,b⟩,e⟩
 ·constructor
  ·intro h;omega
  ·rintro⟨j,x,a,b⟩;rw [List.getElem?_take]at a;split at a
   ·rw [h j x a]at b;cases b
   ·cases a
 ·constructor
  ·intro _;exact⟨j,x,by rw [List.getElem?_take,if_pos (by omega)];exact a,b⟩
  ·rintro⟨m,y,c,d⟩;rw [List.getElem?_take]at c;split at c
   ·rename_i hm
    by_cases f:m<j
    ·rw [e m y f c]at d;cases d
    ·omega
   ·cases c
theorem ix_self {p:α->Bool}{l:List α}{n:Int}(h:(n= -1/\ ∀(j:Nat) x,l[j]? =some x->p x=false)\/ ∃j:Nat,n=((0+j:Nat):Int)/\(∃x,l[j]? =some x/\p x=true)/\ ∀(m:Nat) y,m<j->l[m]? =some y->p y=false){i:Nat}{x:α}(b:l[i]? =some x)(a:p x=true):0<=n:=by
 rcases h with ⟨rfl,h⟩|⟨j,rfl,_,_⟩
 ·rw [h i x b]at a;cases a
 ·omega
theorem aKe (l:List α)(i:Nat)(hi:i<=l.length):sub' l 0 (i:Int)=some (l.take i):=by
 unfold sub';rw [if_pos ⟨by omega,by omega,by omega⟩];simp
end
theorem aKz (l:List Str) (c:Str) (a:l.length<=9223372036854775807):Fbo l c=some (l.any λy=>decide (c=y)):=by
 unfold Fbo Fai;simp only [zG,xG];unfold Fer;obtain⟨n,b,d⟩:=aEy (λy=>decide (c=y)) l 0;rw [xA l (λi x=>if decide (c=x)=true then some (some (i:Int))else none) (some (-1)) a ?_ ?_,b,zA,aXb d];intro k i x e hi;simp only [zG];rw [yP hi,zS,yH e,zA,fP hi a];cases decide (c=x)<;>rfl;intro k;simp only [zG];rw [yO,zM]
theorem aFe (l:List Str) (c:Str) (a:l.length<=9223372036854775807): ∃n,Fac l c=some n/\decide (0<=n)=l.any λy=>decide (c=y):=by
 unfold Fac;simp only [xG];unfold Fga;obtain⟨n,b,d⟩:=aEy (λy=>decide (y=c)) l 0;refine⟨n,?_,?_⟩;rw [xA l (λi x=>if decide (x=c)=true then some (some (i:Int))else none) (some (-1)) a ?_ ?_,b];intro k i x e hi;simp only [zG];rw [yP hi,zS,yH e,zA,fP hi a];cases decide (x=c)<;>rfl;intro k;simp only [zG];rw [yO,zM];rw [aXb d];congr 1;funext y;exact decide_eq_decide.2 eq_comm
def nmd (l:List Rule)(s:Str):Bool:=l.any λy=>decide (y.Name=s)
theorem aUv (s:Str) (r:Rules) (i:Nat) (hi:i<=r.Rules.length) (e:r.Rules.length<=9223372036854775807):Fb7 s r (i:Int)=some (nmd (r.Rules.take i) s):=by
 unfold Fb7;rw [aKe _ _ hi,zA];unfold Fgm Fhg;simp only [zG,xG];unfold Fhw;have a:(r.Rules.take i).length<=9223372036854775807:=by rw [List.length_take];omega
 generalize r.Rules.take i=l at *;obtain⟨n,b,c⟩:=aEy (λy:Rule=>decide (y.Name=s)) l 0;rw [xA l (λi x=>if decide (x.Name=s)=true then some (some (i:Int))else none) (some (-1)) a ?_ ?_,b,zA,aXb c];rfl;intro k i x d hi;simp only [zG,Ff7];rw [yP hi,zS,yH d,zA,zA,fP hi a];cases decide (x.Name=s)<;>rfl;intro k;simp only [zG];rw [yO,zM]
theorem aOy (s:Str) (r:Rules) (b:r.Rules.length<=9223372036854775807): ∃n,Fak r s=some n/\(∀i:Nat,decide (0<=n/\n<(i:Int))=nmd (r.Rules.take i) s)/\ ∀(i:Nat) x,r.Rules[i]? =some x->x.Name=s->0<=n:=by
 unfold Fak;simp only [xG];unfold Fg2;obtain⟨n,d,c⟩:=aEy (λy:Rule=>decide (y.Name=s)) r.Rules 0;refine⟨n,?_,λi=>ix_take c i,λi x a e=>ix_self c a (dT e)⟩;rw [xA r.Rules (λi x=>if decide (x.Name=s)=true then some (some (i:Int))else none) (some (-1)) b ?_ ?_,d];intro k i x a hi;simp only [zG];rw [yP hi,zS,yH a,zA,fP hi b];cases decide (x.Name=s)<;>rfl;intro k;simp only [zG];rw [yO,zM]
def mv1 (c:Cond):Int:=if c.Kind=6\/c.Kind=7 then 2 else 0
theorem mv1_eq (c:Cond):Fep c=some (mv1 c):=by
 unfold Fep mv1;simp only [zG,aP,zA];by_cases h:c.Kind=6\/c.Kind=7;have e:(decide (c.Kind=6)||decide (c.Kind=7))=true:=by rw [Bool.or_eq_true,decide_eq_true_eq,decide_eq_true_eq];exact h
 rw [if_pos h,e,zS];have e:(decide (c.Kind=6)||decide (c.Kind=7))=false:=by rw [Bool.or_eq_false_iff,decide_eq_false_iff_not,decide_eq_false_iff_not];exact not_or.1 h
 rw [if_neg h,e,zM]
theorem bBx: ∀(n:Nat) (c:Cond),dN c<=n->okC c->Fbn n c=some (fE mv1 c)
 |0,c,h,_=>by have:=qZ c;omega
 |n+1,c,h,b=>by
  have a:=((jP c).1 b).2.1;show Fcw (Fbn n) c=_;unfold Fcw;rw [mv1_eq,zA,aKy];simp only [zG,xG]
  by_cases e:mv1 c=0
  ·rw [if_pos e,qD (by simpa using e),zM];unfold Fgg;rw [xA c.Kids (λ_ x=>if fE mv1 x=0 then none else some (some (fE mv1 x))) (some 0) a ?_ ?_,aEm]
   ·intro k _ x d hi;obtain⟨f,_,_⟩:=rF b d;simp only [zG];rw [yP hi,zS,yH d,zA,bBx n x (by omega) f,zA,fP hi a]
    by_cases z:fE mv1 x=0
    ·rw [if_pos z,qD (by simpa using z),zM]
    ·rw [if_neg z,dT z,zS]
   ·intro k;simp only [zG];rw [yO,zM]
  ·rw [if_neg e,dT e,zS]
mutual
def pJ (p:Cond->Bool):Cond->Bool
 |⟨k,nm,ot,op,n,fr,ks⟩=>p ⟨k,nm,ot,op,n,fr,ks⟩||aDb p ks
def aDb (p:Cond->Bool):List Cond->Bool
 | []=>false
 |c::l=>pJ p c||aDb p l
end
theorem aIq (p:Cond->Bool)(c:Cond):pJ p c=(p c||aDb p c.Kids):=by cases c;rfl
theorem aDj (p:Cond->Bool): ∀(l:List Cond) (i:Nat),cZ (λ_ x=>if pJ p x=true then some (some true)else none) (some false) l i=some (aDb p l)
 | [],_=>rfl
 |c::l,i=>by
  rw [cZ,aDb]
  cases h:pJ p c with
  |true=>rfl
  |false=>exact aDj p l (i+1)
mutual
theorem aYh (f:Cond->Int)(p:Cond->Bool)(e:Int)(a:e≠0)(h: ∀c,f c=if p c=true then e else 0): ∀c,fE f c=if pJ p c=true then e else 0
 |⟨k,nm,ot,op,n,fr,ks⟩=>by
  rw [fE,pJ,h]
  cases p ⟨k,nm,ot,op,n,fr,ks⟩with
  |true=>simp [a]
  |false=>simpa using bAj f p e a h ks
theorem bAj (f:Cond->Int)(p:Cond->Bool)(e:Int)(a:e≠0)(h: ∀c,f c=if p c=true then e else 0): ∀l,fEs f l=if aDb p l=true then e else 0
 | []=>rfl
 |c::l=>by
  rw [fEs,aDb,aYh f p e a h c]
  cases pJ p c with
  |true=>simp [a]
  |false=>simpa using bAj f p e a h l
end
def pMv (c:Cond):Bool:=decide (c.Kind=6)||decide (c.Kind=7)
theorem aVj: ∀(n:Nat) (c:Cond),dN c<=n->okC c->Fb3 n c=some (pJ pMv c)
 |0,c,h,_=>by have:=qZ c;omega
 |n+1,c,h,b=>by
  have a:=((jP c).1 b).2.1;show Fb9 (Fb3 n) c=_;unfold Fb9;simp only [zG,xG,aP,zA];rw [aIq];show gQ (pMv c) _ _=_
  cases pMv c with
  |true=>rfl
  |false=>
   rw [zM,Bool.false_or];unfold Fhj;rw [xA c.Kids (λ_ x=>if pJ pMv x=true then some (some true)else none) (some false) a ?_ ?_,aDj]
   ·intro k _ x d hi;obtain⟨e,_,_⟩:=rF b d;simp only [zG];rw [yP hi,zS,yH d,zA,aVj n x (by omega) e,zA,fP hi a]
    cases pJ pMv x<;>rfl
   ·intro k;simp only [zG];rw [yO,zM]
theorem mv1_p (c:Cond):mv1 c=if pMv c=true then 2 else 0:=by
 unfold mv1 pMv;simp only [Bool.or_eq_true,decide_eq_true_eq]
def mvE (r:Rules)(m:eY):Int:=
 if (r.Phases.any λy=>decide (m.From=y))=true/\(r.Phases.any λy=>decide (m.To=y))=true then
  if ckC m.When=0 then if pJ pMv m.When=true then 2 else 0 else ckC m.When
 else 4
theorem move_eq (r:Rules) (m:eY) (b:r.Phases.length<=9223372036854775807) (a:okC m.When):Feg r m=some (mvE r m):=by
 unfold Feg mvE;simp only [zG,xG];unfold Fh6;rw [xA [m.From,m.To] (λ_ x=>if (r.Phases.any λy=>decide (x=y))=true then none else some (some 4)) (if ckC m.When=0 then some (if pJ pMv m.When=true then 2 else 0)else some (ckC m.When)) (show(2:Nat)<=_ by omega) ?_ ?_];simp only [cZ];cases(r.Phases.any λy=>decide (m.From=y))<;>cases(r.Phases.any λy=>decide (m.To=y))<;>simp<;>split<;>rfl;intro k _ x c hi;simp only [zG];rw [yP hi,zS,yH c,zA,aKz _ _ b,zA,fP hi (show(2:Nat)<=_ by omega)];cases(r.Phases.any λy=>decide (x=y))<;>rfl;intro k;simp only [zG];rw [yO,zM,aFn _ a,zA];by_cases z:ckC m.When=0;have g:=aBt z;rw [if_pos z,qD (by simpa using z),zM];unfold Fhd;rw [bBx FU m.When (Nat.le_of_lt (aAs (by omega))) a,zA,aYh mv1 pMv 2 (by decide) mv1_p];rw [if_neg z,dT z,zS]
theorem aXf (r:Rules) (m:eY) (o:r.Phases.length<=9223372036854775807) (p:okC m.When) (k:Option Int):
  (gB (gB (Fac r.Phases m.From) λb=>gJ (decide (b<0)) λc=>gQ c (some true) (gB (Fac r.Phases m.To) λd=>gJ (decide (d<0)) λf=>some f)) λh=>
   gQ h (some 4) (gB (Fbc m.When) λa=>gJ (decide (a≠0)) λi=>gQ i (some a) (gB (Fd6 m.When) λj=>gQ j (some 2) k)))=
  if mvE r m=0 then k else some (mvE r m):=by
 obtain⟨q,s,t⟩:=aFe r.Phases m.From o;obtain⟨u,v,w⟩:=aFe r.Phases m.To o;have l: ∀n:Int,decide (n<0)= !decide (0<=n):=λn=>by rw [<-decide_not];exact decide_eq_decide.2 (by omega)
 unfold mvE;rw [s,zA];simp only [zG];rw [l q,t,v,aDc _ p];simp only [zA];rw [l u,w]
 cases(r.Phases.any λy=>decide (m.From=y))with
 |false=>simp [gQ,gB]
 |true=>
  cases(r.Phases.any λy=>decide (m.To=y))with
  |false=>simp [gQ,gB]
  |true=>
   simp only [Bool.not_true,zM,zA,and_self,if_true]
   by_cases z:ckC m.When=0
   ·have g:=aBt z;have e:Fd6 m.When=some (pJ pMv m.When):=aVj FU m.When (Nat.le_of_lt (aAs (by omega))) p;rw [if_pos z,qD (by simpa using z),zM,e,zA]
    cases pJ pMv m.When<;>simp [gQ]
   ·rw [if_neg z,dT z,zS,if_neg z]
def pRl (r:Rules)(i:Nat)(c:Cond):Bool:=(decide (c.Kind=6)&& !(r.Phases.any λy=>decide (c.Name=y)))||(decide (c.Kind=7)&& !nmd (r.Rules.take i) c.Name)
def rl1 (r:Rules)(i:Nat)(c:Cond):Int:=if pRl r i c=true then 4 else 0
theorem rl1_eq (r:Rules)(i:Nat)(c:Cond)(f:r.Phases.length<=9223372036854775807)(h:r.Rules.length<=9223372036854775807)(hi:i<=r.Rules.length):Fem c r (i:Int)=some (rl1 r i c):=by
 unfold Fem rl1 pRl;rw [aKz _ _ f,aUv _ _ _ hi h];simp only [zG,zA];generalize decide (c.Kind=6)=a;generalize decide (c.Kind=7)=b;generalize (r.Phases.any λy=>decide (c.Name=y))=d;generalize nmd (r.Rules.take i) c.Name=e;cases a<;>cases b<;>cases d<;>cases e<;>rfl
theorem aZi (r:Rules) (i:Nat) (b:r.Phases.length<=9223372036854775807) (d:r.Rules.length<=9223372036854775807) (hi:i<=r.Rules.length): ∀(n:Nat) (c:Cond),dN c<=n->okC c->Fbm n c r (i:Int)=some (fE (rl1 r i) c)
 |0,c,h,_=>by have:=qZ c;omega
 |n+1,c,h,f=>by
  have a:=((jP c).1 f).2.1;show Fcj (Fbm n) c r (i:Int)=_;unfold Fcj;rw [rl1_eq r i c b d hi,zA,aKy];simp only [zG,xG]
  by_cases e:rl1 r i c=0
  ·rw [if_pos e,qD (by simpa using e),zM];unfold Fg8;rw [xA c.Kids (λ_ x=>if fE (rl1 r i) x=0 then none else some (some (fE (rl1 r i) x))) (some 0) a ?_ ?_,aEm]
   ·intro k _ x l o;obtain⟨p,_,_⟩:=rF f l;simp only [zG];rw [yP o,zS,yH l,zA,aZi r i b d hi n x (by omega) p,zA,fP o a]
    by_cases z:fE (rl1 r i) x=0
    ·rw [if_pos z,qD (by simpa using z),zM]
    ·rw [if_neg z,dT z,zS]
   ·intro k;simp only [zG];rw [yO,zM]
  ·rw [if_neg e,dT e,zS]
theorem aOw (r:Rules) (i:Nat) (o:r.Phases.length<=9223372036854775807) (p:r.Rules.length<=9223372036854775807): ∀(n:Nat) (c:Cond),dN c<=n->okC c->Fbj n r (i:Int) c=some (pJ (pRl r i) c)
 |0,c,h,_=>by have:=qZ c;omega
 |n+1,c,h,q=>by
  have f:=((jP c).1 q).2.1;obtain⟨v,w,z⟩:=aFe r.Phases c.Name o;obtain⟨s,A,B,_⟩:=aOy c.Name r p;have l: ∀n:Int,decide (n<0)= !decide (0<=n):=λn=>by rw [<-decide_not];exact decide_eq_decide.2 (by omega)
  have kids:Feh (Fbj n) r (i:Int) c (λ_=>some false) 0=some (aDb (pRl r i) c.Kids):=by
   unfold Feh;rw [xA c.Kids (λ_ x=>if pJ (pRl r i) x=true then some (some true)else none) (some false) f ?_ ?_,aDj]
   ·intro k _ x t u;obtain⟨C,_,_⟩:=rF q t;simp only [zG];rw [yP u,zS,yH t,zA,aOw r i o p n x (by omega) C,zA,fP u f]
    cases pJ (pRl r i) x<;>rfl
   ·intro k;simp only [zG];rw [yO,zM]
  show Fc3 (Fbj n) r (i:Int) c=_;unfold Fc3;simp only [zG,xG];rw [w,A];simp only [zA,aP];rw [l v,z,kids,aIq];have D:(decide (s<0)||decide ((i:Int)<=s))= !nmd (r.Rules.take i) c.Name:=by
   rw [<-B i,<-decide_not,Bool.eq_iff_iff,Bool.or_eq_true,decide_eq_true_eq,decide_eq_true_eq,decide_eq_true_eq];omega
  rw [D];unfold pRl;generalize decide (c.Kind=6)=a;generalize decide (c.Kind=7)=b;generalize (r.Phases.any λy=>decide (c.Name=y))=d;generalize nmd (r.Rules.take i) c.Name=e
  cases a<;>cases b<;>cases d<;>cases e<;>rfl
def rlE (r:Rules)(i:Nat)(x:Rule):Int:=
 if rW x.Name=true then if nmd (r.Rules.take i) x.Name=true then 5 else if ckC x.When=0 then if pJ (pRl r i) x.When=true then 4 else 0 else ckC x.When else 8
theorem rule_eq (r:Rules) (i:Nat) (x:Rule) (a:r.Rules[i]? =some x) (d:r.Phases.length<=9223372036854775807) (b:r.Rules.length<=9223372036854775807) (e:okS x.Name) (c:okC x.When):Fed r (i:Int)=some (rlE r i x):=by
 have hi:i<=r.Rules.length:=Nat.le_of_lt (gS.1 a).1;unfold Fed rlE;rw [yH a,zA,uG _ e,zA,aUv _ _ _ hi b,aFn _ c];simp only [zG,zA]
 cases rW x.Name with
 |false=>rfl
 |true=>
  cases nmd (r.Rules.take i) x.Name with
  |true=>rfl
  |false=>
   simp only [Bool.not_true,zM,if_true,Bool.false_eq_true,if_false]
   by_cases z:ckC x.When=0
   ·have g:=aBt z;rw [if_pos z,qD (by simpa using z),zM];unfold Fgy;rw [aZi r i d b hi FU x.When (Nat.le_of_lt (aAs (by omega))) c,zA,aYh (rl1 r i) (pRl r i) 4 (by decide) (λ_=>rfl)]
   ·rw [if_neg z,dT z,zS]
theorem aWr (r:Rules) (i:Nat) (x:Rule) (q:r.Rules[i]? =some x) (u:r.Phases.length<=9223372036854775807) (s:r.Rules.length<=9223372036854775807) (v:okS x.Name) (t:okC x.When) (k:Option Int):
  (gB (Fam x.Name) λb=>gJ (!b) λc=>gQ c (some 8) (gB (at' r.Rules (i:Int)) λd=>gB (Fak r d.Name) λf=>gJ (decide (f<(i:Int))) λh=>gQ h (some 5)
   (gB (at' r.Rules (i:Int)) λj=>gB (Fbc j.When) λa=>gJ (decide (a≠0)) λl=>gQ l (some a) (gB (at' r.Rules (i:Int)) λo=>gB (Fev r (i:Int) o.When) λp=>gQ p (some 4) k))))=
  if rlE r i x=0 then k else some (rlE r i x):=by
 obtain⟨n,w,y,A⟩:=aOy x.Name r s;have B:=A i x q rfl;unfold rlE;rw [aZ _ v,zA,yH q];simp only [zG,zA];rw [w,zA,aDc _ t,zA];have e:decide (n<(i:Int))=nmd (r.Rules.take i) x.Name:=by rw [<-y i];exact decide_eq_decide.2 (by omega)
 rw [e]
 cases rW x.Name with
 |false=>simp [gQ]
 |true=>
  cases nmd (r.Rules.take i) x.Name with
  |true=>simp [gQ]
  |false=>
   simp only [Bool.not_true,zM,if_true,Bool.false_eq_true,if_false]
   by_cases z:ckC x.When=0
   ·have g:=aBt z;have e:Fev r (i:Int) x.When=some (pJ (pRl r i) x.When):=aOw r i u s FU x.When (Nat.le_of_lt (aAs (by omega))) t;rw [if_pos z,qD (by simpa using z),zM,e,zA]
    cases pJ (pRl r i) x.When<;>simp [gQ]
   ·rw [if_neg z,dT z,zS,if_neg z]
def okR (r:Rules):Prop:=okL okS r.Phases/\okL (λm:eY=>okS m.From/\okS m.To/\okC m.When) r.Moves/\okL (λx:Rule=>okS x.Name/\okC x.When) r.Rules
def phE (l:List Str)(i:Nat)(x:Str):Int:=if rW x=true then if ((l.take i).any λy=>decide (x=y))=true then 5 else 0 else 8
def chk (r:Rules):Option Int:=
 if (decide (20<(r.Phases.length:Int))||decide (60<(r.Moves.length:Int)))||decide (60<(r.Rules.length:Int))then some 3
 else cZ (λi x=>if phE r.Phases i x=0 then none else some (some (phE r.Phases i x))) (cZ (λ_ m=>if mvE r m=0 then none else some (some (mvE r m))) (cZ (λi x=>if rlE r i x=0 then none else some (some (rlE r i x))) (some 0) r.Rules 0) r.Moves 0) r.Phases 0
theorem aSs (r:Rules) (d:okR r):Fc7 r=chk r:=by
 obtain⟨⟨b,e⟩,⟨m1,m2⟩,⟨c,f⟩⟩:=d;unfold Fc7 chk;simp only [zG,xG,aP,zA];rw [kS];congr 1;unfold Fia;refine xA r.Phases _ _ b (λk i x a hi=>?_) (λk=>?_);have hm:=e x (qS a);simp only [zG];rw [yP hi,zS,yH a,zA,uG _ hm,zA,aKe _ _ (Nat.le_of_lt hi),zA,aKz _ _ (by rw [List.length_take];omega),zA,fP hi b];unfold phE;cases rW x<;>cases((r.Phases.take i).any λy=>decide (x=y))<;>rfl;simp only [zG];rw [yO,zM];unfold Fho;refine xA r.Moves _ _ m1 (λk i x a hi=>?_) (λk=>?_);have hm:=m2 x (qS a);simp only [zG];rw [yP hi,zS,yH a,zA,move_eq r x b hm.2.2,zA,fP hi m1];by_cases z:mvE r x=0;rw [if_pos z,qD (by simpa using z),zM];rw [if_neg z,dT z,zS];simp only [zG];rw [yO,zM];unfold Fil;refine xA r.Rules _ _ c (λk i x a hi=>?_) (λk=>?_);have hm:=f x (qS a);simp only [zG];rw [yP hi,zS,rule_eq r i x a b c hm.1 hm.2,zA,fP hi c];by_cases z:rlE r i x=0;rw [if_pos z,qD (by simpa using z),zM];rw [if_neg z,dT z,zS];simp only [zG];rw [yO,zM]
theorem rCheck_eq (r:Rules) (e:okR r):Feu r=chk r:=by
 obtain⟨⟨c,f⟩,⟨m1,m2⟩,⟨d,h⟩⟩:=e;unfold Feu chk;simp only [zG,xG,aP,zA];rw [kS];congr 1;unfold Fh5;refine xA r.Phases _ _ c (λk i x a hi=>?_) (λk=>?_);have hm:=f x (qS a);obtain⟨n,j,l⟩:=aFe (r.Phases.take i) x (by rw [List.length_take];omega);simp only [zG];rw [yP hi,zS,yH a,zA,aZ _ hm,zA,aKe _ _ (Nat.le_of_lt hi),zA,zA,j,zA,l,fP hi c];unfold phE;cases rW x<;>cases((r.Phases.take i).any λy=>decide (x=y))<;>rfl;simp only [zG];rw [yO,zM];unfold Fid;refine xA r.Moves _ _ m1 (λk i x a hi=>?_) (λk=>?_);have hm:=m2 x (qS a);have b:=aXf r x c hm.2.2 (k ((i+1:Nat):Int));simp only [zG]at b⊢;rw [yP hi,zS,yH a,zA,fP hi m1,b];by_cases z:mvE r x=0;rw [if_pos z,if_pos z];rw [if_neg z,if_neg z];simp only [zG];rw [yO,zM];unfold Fim;refine xA r.Rules _ _ d (λk i x a hi=>?_) (λk=>?_);have hm:=h x (qS a);have b:=aWr r i x a c d hm.1 hm.2 (k ((i+1:Nat):Int));simp only [zG]at b⊢;rw [yP hi,zS,yH a,zA,fP hi d];rw [yH a]at b;rw [b];by_cases z:rlE r i x=0;rw [if_pos z,if_pos z];rw [if_neg z,if_neg z];simp only [zG];rw [yO,zM]
theorem aFh {s:Str}(h:rW s=true):s.length<=30:=by
 unfold rW at h;simp only [Bool.and_eq_true,decide_eq_true_eq]at h;omega
structure Gd (c:Cond):Prop where
 k1:1<=c.Kind/\c.Kind<=15
 nm:c.Name.length<=30
 ot:c.Other.length<=30
 op:0<=c.Op/\c.Op<=6
 n: -1125899906842624<=c.N/\c.N<=1125899906842624
 fr:0<=c.Frames/\c.Frames<=4096
set_option maxHeartbeats 20000000 in
theorem gd_in (nm ot:Str)(op n fr:Int)(ks:List Cond)(k:Int)(hk2:k=1\/k=2\/k=3\/k=4\/k=5\/k=6\/k=7\/k=8\/k=9\/k=10\/k=11\/k=12\/k=13\/k=14\/k=15)(h1:okS nm)(h2:okS ot)(h:Fah ⟨k,nm,ot,op,n,fr,ks⟩=some 0):Gd ⟨k,nm,ot,op,n,fr,ks⟩:=by
  have q1:= @aFh nm;have q2:= @aFh ot;rcases hk2 with rfl | rfl | rfl | rfl | rfl | rfl | rfl | rfl | rfl | rfl | rfl | rfl | rfl | rfl | rfl<;>
    (unfold Fah at h
     simp only [rf1,rf2,rf3,rf4,rf5,rf6,rf7,rf8,rf9,rf10,rf11,rf12,rf13,rf14,rf15,zA,zG,Bool.not_true,Bool.not_false,zS,zM,xG,out6,aZ _ h1,aZ _ h2,Int.reduceEq,Int.reduceLT,Int.reduceLE,decide_true,decide_false,Bool.or_self,aJc,aP,vH] at h;simp only [kS] at h;constructor<;>grind)
theorem gd_of {c:Cond} (d:okC c) (f:c.Kids.length<=200) (h:ck1 c=0):Gd c:=by
 have e:=(aIx c (aGy d) f).2;rw [h]at e;by_cases a:1<=c.Kind/\c.Kind<=15;have o:=aGy d;obtain⟨k,nm,ot,op,n,fr,ks⟩:=c;have b:k=1\/k=2\/k=3\/k=4\/k=5\/k=6\/k=7\/k=8\/k=9\/k=10\/k=11\/k=12\/k=13\/k=14\/k=15:=by have:=a.1;have:=a.2;simp only at *;omega
 exact gd_in nm ot op n fr ks k b o.1 o.2 e;rw [(aXg c a).2]at e;cases e
theorem bCb {f:Cond->Int}: ∀{l:List Cond},fEs f l=0-> ∀x∈l,fE f x=0
 | [],_,x,b=>by cases b
 |a::l,h,x,b=>by
  rw [fEs]at h;split at h
  ·rename_i q;rcases List.mem_cons.1 b with rfl|b
   ·exact q
   ·exact bCb h x b
  ·rename_i q;exact absurd h q
structure Gt (c:Cond):Prop where
 ok:okC c
 d:dN c<=20
 n:cN c<=200
 e:fE ck1 c=0
theorem gt_of {c:Cond}(a:okC c)(h:ckC c=0):Gt c:=by
 obtain⟨b,d,e⟩:=aBt h;exact⟨a,b,d,e⟩
theorem Gt.self {c:Cond}(g:Gt c):Gd c:=by
 have h:=g.e;rw [aKy]at h;have a:=aCs c.Kids;have b:=wP c;have d:=g.n;split at h;rename_i q;exact gd_of g.ok (by omega) q;rename_i q;exact absurd h q
theorem Gt.kid {c x:Cond}(g:Gt c)(a:x∈c.Kids):Gt x:=by
 obtain⟨_,b⟩:=List.getElem?_of_mem a;obtain⟨f,_,_⟩:=rF g.ok b;have l:=g.d;have o:=g.n;refine⟨f,by omega,by omega,?_⟩;have h:=g.e;rw [aKy]at h;split at h;exact bCb h x a;rename_i q;exact absurd h q
theorem Gt.kids {c:Cond}(g:Gt c):c.Kids.length<=200:=by
 have a:=aCs c.Kids;have b:=wP c;have d:=g.n;omega
theorem take_snoc {α:Type}{l:List α}{i:Nat}{x:α}(a:l[i]? =some x):l.take (i+1)=l.take i++[x]:=by
 rw [List.take_add_one,a];rfl
structure Gr' (r:Rules):Prop where
 p:r.Phases.length<=20
 m:r.Moves.length<=60
 l:r.Rules.length<=60
 pn: ∀x∈r.Phases,x.length<=30
 pd: ∀(i:Nat) x,r.Phases[i]? =some x->x∉r.Phases.take i
 mg: ∀x∈r.Moves,Gt x.When/\x.From.length<=30/\x.To.length<=30
 lg: ∀x∈r.Rules,Gt x.When/\x.Name.length<=30
theorem jE {α:Type} (e:Nat->α->Int) (fin:Option Int): ∀(l:List α) (i:Nat),cZ (λi x=>if e i x=0 then none else some (some (e i x))) fin l i=some 0->fin=some 0/\ ∀(j:Nat) x,l[j]? =some x->e (i+j) x=0
 | [],i,h=>⟨h,λj x b=>by simp at b⟩
 |a::l,i,h=>by
  rw [cZ]at h
  by_cases z:e i a=0
  ·rw [if_pos z]at h;obtain⟨c,d⟩:=jE e fin l (i+1) h;refine⟨c,λj x b=>?_⟩
   cases j with
   |zero=>simp at b;subst b;simpa using z
   |succ j=>have:=d j x (by simpa using b);rwa [show i+(j+1)=i+1+j by omega]
  ·rw [if_neg z]at h;exact absurd (oI h) z
theorem nC {r:Rules} (f:okR r) (h:chk r=some 0):Gr' r:=by
 unfold chk at h;split at h
 ·exact absurd (oI h) (by decide)
 ·rename_i q;simp only [Bool.or_eq_true,decide_eq_true_eq,not_or]at q;obtain⟨k,l⟩:=jE (phE r.Phases) _ _ _ h;obtain⟨o,p⟩:=jE (λ_=>mvE r) _ _ _ k;obtain⟨_,s⟩:=jE (rlE r) _ _ _ o;have ph: ∀(i:Nat) x,r.Phases[i]? =some x->rW x=true/\x∉r.Phases.take i:=by
   intro i x c;have:=l i x c;rw [Nat.zero_add]at this;unfold phE at this;split at this
   ·rename_i a;refine⟨a,?_⟩;split at this
    ·exact absurd this (by decide)
    ·rename_i b;intro hm;exact b (List.any_eq_true.2 ⟨x,hm,by simp⟩)
   ·exact absurd this (by decide)
  have e: ∀x∈r.Phases,x.length<=30:=by
   intro x c;obtain⟨j,d⟩:=List.getElem?_of_mem c;exact aFh (ph j x d).1
  refine⟨by omega,by omega,by omega,e,λi x c=>(ph i x c).2,?_,?_⟩
  ·intro x c;obtain⟨j,d⟩:=List.getElem?_of_mem c;have:=p j x d;unfold mvE at this;split at this
   ·rename_i a;split at this
    ·rename_i b;obtain⟨y,t,u⟩:=List.any_eq_true.1 a.1;obtain⟨z,v,z2⟩:=List.any_eq_true.1 a.2;refine⟨gt_of (f.2.1.2 x c).2.2 b,?_,?_⟩
     ·rw [of_decide_eq_true u];exact e y t
     ·rw [of_decide_eq_true z2];exact e z v
    ·rename_i b;exact absurd this b
   ·exact absurd this (by decide)
  ·intro x c;obtain⟨j,d⟩:=List.getElem?_of_mem c;have:=s j x d;unfold rlE at this;split at this
   ·rename_i a;split at this
    ·exact absurd this (by decide)
    ·split at this
     ·rename_i b;exact⟨gt_of (f.2.2.2 x c).2 b,aFh a⟩
     ·rename_i b;exact absurd this b
   ·exact absurd this (by decide)
theorem chk_some (r:Rules): ∃e,chk r=some e:=by
 have b: ∀{α:Type} (e:Nat->α->Int) (fin:Option Int) (_: ∃z,fin=some z) (l:List α) (i:Nat),∃z,cZ (λi x=>if e i x=0 then none else some (some (e i x))) fin l i=some z:=by
  intro α e fin c l
  induction l with
  |nil=>intro i;exact c
  |cons a l d=>
   intro i;rw [cZ]
   by_cases z:e i a=0
   ·rw [if_pos z];exact d (i+1)
   ·rw [if_neg z];exact⟨_,rfl⟩
 unfold chk;split
 ·exact⟨_,rfl⟩
 ·exact b (phE r.Phases) _ (b (λ_=>mvE r) _ (b (rlE r) _ ⟨0,rfl⟩ _ _) _ _) _ _
end Go.Lf
