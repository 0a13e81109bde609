/- Laws that the claim stands on; no condition beyond those stated. -/
import Derived.Test.YtnccbhdmemheeaaGreatDoorSPa
namespace Go.Lf
open Go.OB
theorem app1 (p q:List Int)(h:p.length+q.length<=140737488355328):app' 1 p q=some (p++q):=by
 unfold app';rw [if_pos ⟨by rw [Go.OB.maxLen_eq];omega,by omega⟩]
theorem aEc (p:List Int)(n:Int)(a:0<=n/\n<=18446744073709551615)(h:p.length+20<=140737488355328): ∃q,Fdo p n 10=some q/\q.length<=p.length+20:=by
 unfold Fdo;rw [if_pos ⟨rfl,a.1,a.2,h⟩];refine⟨_,rfl,?_⟩;rw [List.length_append,uY,Lib.decDigits_length];have:=Lib.nDigits_le20 n.toNat (by omega);omega
theorem aZq (n:Int):0<=IntKind.u64.wrap n/\IntKind.u64.wrap n<=18446744073709551615:=by
 rw [IntKind.wrap_u64];omega
theorem aSb (p:List Int) (n:Int) (h:p.length+21<=140737488355328): ∃q,Feb p n 10=some q/\q.length<=p.length+21:=by
 have e: ∃q,Fff p n 10=some q/\q.length<=p.length+21:=by
  unfold Fff;simp only [zI,xE]
  by_cases c:n<0
  ·have d:=app1 p [45] (by simp;omega);rw [if_pos c,d,zC,zC];obtain⟨q,a,b⟩:=aEc (p++[45]) (IntKind.u64.wrap (-IntKind.u64.wrap n)) (aZq _) (by simp;omega);simp only [];rw [a,zC];exact⟨q,rfl,by simp at b;omega⟩
  ·rw [if_neg c,zC];obtain⟨q,a,b⟩:=aEc p (IntKind.u64.wrap n) (aZq _) (by omega);simp only [];rw [a,zC];exact⟨q,rfl,by omega⟩
 obtain⟨q,a,b⟩:=e;unfold Feb;rw [a,zC];exact⟨q,rfl,b⟩
def Gr (r:Option gX)(n:Nat):Prop:= ∃q,r=some q/\q.out.length<=n
theorem Gr.bind {a:Option gX}{k:gX->Option gX}{n m:Nat}(h:Gr a n)(b: ∀q,q.out.length<=n->Gr (k q) m):Gr (gB a k) m:=by
 obtain⟨q,c,d⟩:=h;rw [c,zC];exact b q d
theorem Gr.some {q:gX}{n:Nat}(h:q.out.length<=n):Gr (Option.some q) n:=⟨q,rfl,h⟩
theorem aAx (p:gX)(n:Int){b:Nat}(c:p.out.length<=b)(h:b<=100000000000000):Gr (Faw p n) (b+22):=by
 obtain⟨q,a,_⟩:=aSb p.out n (by omega);unfold Faw;rw [a,zC];simp only [zI];rw [app1 q [32] (by simp;omega),zC];exact Gr.some (by simp;omega)
theorem ink_Ints (p:gX) (l:List Int) {b:Nat} (c:p.out.length<=b) (h:b+22+22*l.length<=100000000000000):Gr (Ffd p l) (b+22+22*l.length):=by
 unfold Ffd;simp only [zI];refine(aAx p _ c (by omega)).bind λ_ d=>?_
 unfold Fif;refine aV (λ(i:Nat) (s:List Int)=>((i:Int),s)) l (λi s=>s.length<=b+22+22*i) (λ(r:gX)=>r.out.length<=b+22+22*l.length) (by omega) ?_ ?_ _ (by simpa using d)
 ·intro e i s x f hi a;obtain⟨r,j,_⟩:=aAx (gX.mk s) x a (by omega);refine⟨r.out,by omega,?_⟩;simp only [zI];rw [yM hi,zU,yR f,zC,j,zC,fQ hi (by omega)]
 ·intro e s a;simp only [zI];rw [yN,zQ];exact⟨_,rfl,a⟩
theorem ink_Text (p:gX)(s:Str){b:Nat}(a:p.out.length<=b)(h:b+22+s.length<=100000000000000):Gr (Fd2 p s) (b+22+s.length):=by
 unfold Fd2;simp only [zI];refine(aAx p _ a (by omega)).bind λq _=>?_
 rw [app1 q.out (nums s) (by rw [uY];omega),zC];exact Gr.some (by simp [uY];omega)
theorem ink_Texts (p:gX) (l:List Str) {b:Nat} (d: ∀s∈l,s.length<=30) (e:p.out.length<=b) (h:b+22+52*l.length<=100000000000000):Gr (Ffm p l) (b+22+52*l.length):=by
 unfold Ffm;simp only [zI];refine(aAx p _ e (by omega)).bind λ_ f=>?_
 unfold Fii;refine aV (λ(i:Nat) (s:List Int)=>((i:Int),s)) l (λi s=>s.length<=b+22+52*i) (λ(r:gX)=>r.out.length<=b+22+52*l.length) (by omega) ?_ ?_ _ (by simpa using f)
 ·intro j i s x c hi a;have k:=d x (qS c);obtain⟨r,n,_⟩:=ink_Text (gX.mk s) x a (by omega);refine⟨r.out,by omega,?_⟩;simp only [zI];rw [yM hi,zU,yR c,zC,n,zC,fQ hi (by omega)]
 ·intro j s a;simp only [zI];rw [yN,zQ];exact⟨_,rfl,a⟩
set_option maxRecDepth 1000000 in
theorem aEu:Fdq=some true:=by kernel_rfl
structure Gk (c:Cond):Prop where
 z:c.Kind<=7->c.Kids.length=0
 o:(c.Kind=8\/c.Kind=11\/c.Kind=12\/c.Kind=13\/c.Kind=15)->c.Kids.length=1
 t:c.Kind=14->c.Kids.length=2
 g:(c.Kind=9\/c.Kind=10)->2<=c.Kids.length
 fr:(c.Kind=5\/c.Kind=11\/c.Kind=12\/c.Kind=13)->1<=c.Frames
 cn:c.Kind=13->1<=c.N/\c.N<=c.Frames
 st:c.Kind=5->0<=c.N
 op:(c.Kind=3\/c.Kind=4)->1<=c.Op
set_option maxHeartbeats 20000000 in
theorem gk_in (nm ot:Str)(op n fr:Int)(ks:List Cond)(k:Int)(hk2:k=1\/k=2\/k=3\/k=4\/k=5\/k=6\/k=7\/k=8\/k=9\/k=10\/k=11\/k=12\/k=13\/k=14\/k=15)(h1:okS nm)(h2:okS ot)(h:Fah ⟨k,nm,ot,op,n,fr,ks⟩=some 0):Gk ⟨k,nm,ot,op,n,fr,ks⟩:=by
  rcases hk2 with rfl | rfl | rfl | rfl | rfl | rfl | rfl | rfl | rfl | rfl | rfl | rfl | rfl | rfl | rfl<;>
    (unfold Fah at h
     simp only [rf1,rf2,rf3,rf4,rf5,rf6,rf7,rf8,rf9,rf10,rf11,rf12,rf13,rf14,rf15,zC,zI,Bool.not_true,Bool.not_false,zU,zQ,xB,out6,jU _ h1,jU _ h2,Int.reduceEq,Int.reduceLT,Int.reduceLE,decide_true,decide_false,Bool.or_self,aJk,jK,aAo] at h;simp only [nV] at h;constructor<;>grind)
theorem gk_of {c:Cond} (d:okC c) (f:c.Kids.length<=200) (h:ck1 c=0):Gk c:=by
 have e:=(aJx c (aHt d) f).2;rw [h]at e
 by_cases a:1<=c.Kind/\c.Kind<=15
 ·have o:=aHt d;obtain⟨k,nm,i,op,n,fr,ks⟩:=c;have b:k=1\/k=2\/k=3\/k=4\/k=5\/k=6\/k=7\/k=8\/k=9\/k=10\/k=11\/k=12\/k=13\/k=14\/k=15:=by have:=a.1;have:=a.2;simp only at *;omega
  exact gk_in nm i op n fr ks k b o.1 o.2 e
 ·rw [(aWv c a).2]at e
  cases e
theorem Gt.gk {c:Cond}(g:Gt c):Gk c:=by
 have h:=g.e;rw [aMp]at h;have a:=aDb c.Kids;have b:=wI c;have d:=g.n;split at h
 ·rename_i q;exact gk_of g.ok (by omega) q
 ·rename_i q;exact absurd h q
def nm1 (c:Cond):List Str:=if c.Kind=3\/c.Kind=5 then [c.Name]else if c.Kind=4 then [c.Name,c.Other]else []
mutual
def kH:Cond->List Str
 |⟨k,nm,a,op,n,fr,ks⟩=>nm1 ⟨k,nm,a,op,n,fr,ks⟩++uM ks
def uM:List Cond->List Str
 | []=>[]
 |c::l=>kH c++uM l
end
theorem aAv (c:Cond):kH c=nm1 c++uM c.Kids:=by cases c;rfl
theorem aRp (c:Cond):(nm1 c).length<=2:=by unfold nm1;split<;>(try split)<;>simp
mutual
theorem jI: ∀c,(kH c).length<=2*cN c
 |⟨k,nm,a,op,n,fr,ks⟩=>by
  have h:=aPf ks;have b:=aRp ⟨k,nm,a,op,n,fr,ks⟩;rw [aAv,List.length_append,wI];show _+(uM ks).length<=2*(1+cNs ks);omega
theorem aPf: ∀l,(uM l).length<=2*cNs l
 | []=>by simp [uM]
 |c::l=>by
  have h:=jI c;have a:=aPf l;rw [uM,List.length_append,cNs];omega
end
theorem aIa {a:Type}(p q:List a)(h:p.length+q.length<=8000000000000):app' 16 p q=some (p++q):=by
 unfold app';rw [if_pos ⟨by rw [maxLen_eq];omega,by omega⟩]
theorem nm_step (c:Cond) (l:List Str) (h:l.length<=7000000000000):Fer c l=some (0,l++nm1 c):=by
 unfold Fer nm1;simp only [zI,xE]
 by_cases a:c.Kind=3
 ·simp only [a,if_pos,true_or,decide_true,zC,zU];rw [aIa l _ (by simp;omega),zC,zC]
 ·by_cases b:c.Kind=5
  ·simp only [b,show¬((5:Int)=3)by decide,if_pos,or_true,decide_true,zC,zU,if_false];rw [aIa l _ (by simp;omega),zC,zC]
  ·simp only [a,b,decide_false,zC,zQ,or_self,if_false]
   by_cases d:c.Kind=4
   ·simp only [d,if_pos];rw [aIa l _ (by simp;omega),zC,zC]
   ·simp only [d,if_neg,zC,List.append_nil,not_false_eq_true]
theorem bBy: ∀(n:Nat) (c:Cond) (l:List Str),dN c<=n->okC c->l.length+2*cN c<=7000000000000->Fbg n c l=some (0,l++kH c)
 |0,c,_,h,_,_=>by have:=uF c;omega
 |n+1,c,l,h,t,_=>by
  have a:=((mQ c).1 t).2.1;have z:=wI c;have u:=aRp c;show Fdj (Fbg n) c l=_;unfold Fdj;rw [nm_step c l (by omega),zC];simp only [zI,xB];rw [qD (by simp),zQ];unfold Ffv;have r: ∀(B:(Int×List Str->Option (Int×List Str))->Int×List Str->Option (Int×List Str)) (_: ∀k (i:Int) (s:List Str),B k (i,s)=gJ (decide (i<(c.Kids.length:Int))) λx=>gQ x (gB (at' c.Kids i) λe=>gB (Fbg n e s) λp=>gJ (decide (p.1≠0)) λj=>gQ j (some (p.1,p.2)) (gJ (IntKind.i64.wrap (i+1)) λo=>k (o,p.2))) (some (0,s)))
    (d i:Nat) (s:List Str) (b:Nat),i+d=c.Kids.length->d<b->s.length+2*cNs (c.Kids.drop i)<=7000000000000->dW B b ((i:Int),s)=some (0,s++uM (c.Kids.drop i)):=by
   intro B v d
   induction d with
   |zero=>
    intro i s b u A w;obtain⟨f,rfl⟩: ∃f,b=f+1:=⟨b-1,by omega⟩;obtain rfl:i=c.Kids.length:=by omega
    rw [dW,v];simp only [zI,yN,zQ,List.drop_length,uM,List.append_nil]
   |succ d C=>
    intro i s b u A w;obtain⟨f,rfl⟩: ∃f,b=f+1:=⟨b-1,by omega⟩;have hi:i<c.Kids.length:=by omega
    have y:c.Kids[i]? =some c.Kids[i]:=gE hi;obtain⟨D,_,_⟩:=qF t y;have q:=List.drop_eq_getElem_cons hi;rw [q,cNs]at w;have H:=jI c.Kids[i];rw [dW,v];simp only [zI];rw [yM hi,zU,yR y,zC,bBy n _ s (by omega) D (by omega),zC];simp only [];rw [qD (by simp),zQ,fQ hi a,C (i+1) _ f (by omega) (by omega) (by rw [List.length_append];omega),q,uM,List.append_assoc]
  unfold fK;refine(r _ (λ_ _ _=>rfl) c.Kids.length 0 (l++nm1 c) FU (by omega) (mM a) (by rw [List.length_append,List.drop_zero];omega)).trans ?_;rw [List.drop_zero,List.append_assoc,<-aAv]
theorem aMo {c:Cond}(g:Gt c):Fc1 c=some (kH c):=by
 have:=g.d;have:=g.n;unfold Fc1 Fhz;rw [bBy FU c [] (Nat.le_of_lt (aBu (by omega))) g.ok (by simp;omega),zC,List.nil_append]
def nK (r:Rules):List Str:=(r.Moves.flatMap λm=>kH m.When)++r.Rules.flatMap λx=>kH x.When
theorem rJ {a:Type}(f:a->List Str)(K:Nat): ∀(l:List a),(∀x∈l,(f x).length<=K)->(l.flatMap f).length<=l.length*K
 | [],_=>by simp
 |x::l,h=>by
  have c:=h x List.mem_cons_self;have d:=rJ f K l λy b=>h y (List.mem_cons_of_mem _ b)
  rw [List.flatMap_cons,List.length_append,List.length_cons,Nat.succ_mul];omega
theorem aOu {r:Rules}(g:Gr' r):(nK r).length<=48000:=by
 have b:=rJ (λm:dI=>kH m.When) 400 r.Moves λx a=>by have:=jI x.When;have:=(g.mg x a).1.n;omega
 have c:=rJ (λm:dA=>kH m.When) 400 r.Rules λx a=>by have:=jI x.When;have:=(g.lg x a).1.n;omega
 have:=g.m;have:=g.l;unfold nK;rw [List.length_append];omega
theorem aWa {r:Rules} (g:Gr' r):Fc7 r=some (qM (aDp (nK r))):=by
 have hm:=g.m;have u:=g.l;have h:Ffi r (r.Moves.length:Int) ([],0)=some (r.Moves.flatMap λm=>kH m.When):=by
  have b: ∃q,Ffi r (r.Moves.length:Int) ([],0)=some q/\q=r.Moves.flatMap λm=>kH m.When:=by
   unfold Ffi;refine aV (λ(i:Nat) (s:List Str)=>(s,(i:Int))) r.Moves (λi s=>s=(r.Moves.take i).flatMap λm=>kH m.When) (λs=>s=r.Moves.flatMap λm=>kH m.When) (by omega) ?_ ?_ [] (by simp)
   ·intro k i s x c hi a;have d:=(g.mg x (qS c)).1;have e:=rJ (λm:dI=>kH m.When) 400 (r.Moves.take i) λy f=>by have:=jI y.When;have:=(g.mg y (List.mem_of_mem_take f)).1.n;omega
    have j:=jI x.When;have o:=d.n;have p:(r.Moves.take i).length<=60:=by simp;omega
    refine⟨s++kH x.When,by rw [a,take_snoc c];simp,?_⟩;simp only [zI];rw [yM hi,zU,yR c,zC,aMo d,zC,aIa s _ (by rw [a];omega),zC,fQ hi (by omega)]
   ·intro k s a;simp only [zI];rw [yN,zQ];exact⟨_,rfl,by rw [a,List.take_length]⟩
  obtain⟨q,e,rfl⟩:=b;exact e
 have t:Fel r (r.Rules.length:Int) (r.Moves.flatMap (λm=>kH m.When),0)=some (nK r):=by
  have b: ∃q,Fel r (r.Rules.length:Int) (r.Moves.flatMap (λm=>kH m.When),0)=some q/\q=nK r:=by
   unfold Fel;refine aV (λ(i:Nat) (s:List Str)=>(s,(i:Int))) r.Rules (λi s=>s=(r.Moves.flatMap λm=>kH m.When)++(r.Rules.take i).flatMap λm=>kH m.When) (λs=>s=nK r) (by omega) ?_ ?_ _ (by simp)
   ·intro k i s x c hi a;have d:=(g.lg x (qS c)).1;have v:=rJ (λm:dI=>kH m.When) 400 r.Moves λy f=>by have:=jI y.When;have:=(g.mg y f).1.n;omega
    have e:=rJ (λm:dA=>kH m.When) 400 (r.Rules.take i) λy f=>by have:=jI y.When;have:=(g.lg y (List.mem_of_mem_take f)).1.n;omega
    have j:=jI x.When;have o:=d.n;have p:(r.Rules.take i).length<=60:=by simp;omega
    refine⟨s++kH x.When,by rw [a,take_snoc c];simp,?_⟩;simp only [zI];rw [yM hi,zU,yR c,zC,aMo d,zC,aIa s _ (by rw [a,List.length_append];omega),zC,fQ hi (by omega)]
   ·intro k s a;simp only [zI];rw [yN,zQ];exact⟨_,rfl,by rw [a,List.take_length];rfl⟩
  obtain⟨q,e,rfl⟩:=b;exact e
 have w:=aOu g;unfold Fc7;simp only [zI];rw [h,zC,t,zC];unfold Fex Fdt;rw [if_pos (by omega),zC,if_pos (by rw [aSy];omega),zC]
def SS (l:List Str):Prop:=l.Pairwise λa b=>slt a b=true
theorem SS.ext {l m:List Str} (c:SS l) (d:SS m) (h: ∀x,x∈l↔x∈m):l=m:=by
 induction l generalizing m with
 |nil=>
  cases m with
  |nil=>rfl
  |cons b m=>exact absurd ((h b).2 List.mem_cons_self) (by simp)
 |cons a l j=>
  cases m with
  |nil=>exact absurd ((h a).1 List.mem_cons_self) (by simp)
  |cons b m=>
   unfold SS at c d;rw [List.pairwise_cons]at c d;have e:a=b:=by
    rcases List.mem_cons.1 ((h a).1 List.mem_cons_self)with q|q
    ·exact q
    ·rcases List.mem_cons.1 ((h b).2 List.mem_cons_self)with i|i
     ·exact i.symm
     ·have:=aPk (d.1 a q);rw [c.1 b i]at this;cases this
   subst e;rw [j c.2 d.2 λx=>?_];constructor
   ·intro f;rcases List.mem_cons.1 ((h x).1 (List.mem_cons_of_mem _ f))with q|q
    ·subst q;have:=c.1 x f;rw [vC]at this;cases this
    ·exact q
   ·intro f;rcases List.mem_cons.1 ((h x).2 (List.mem_cons_of_mem _ f))with q|q
    ·subst q;have:=d.1 x f;rw [vC]at this;cases this
    ·exact q
def pG:List Str->Str->List Str
 | [],s=>[s]
 |x::l,s=>if slt x s=true then x::pG l s else if x=s then x::l else s::x::l
theorem aMq (s x:Str): ∀l,x∈pG l s↔x∈l\/x=s
 | []=>by simp [pG]
 |y::l=>by
  rw [pG];split
  ·rw [List.mem_cons,aMq s x l,List.mem_cons];simp only [or_assoc]
  ·split
   ·rename_i q;subst q;simp only [List.mem_cons];constructor
    ·exact .inl
    ·rintro(h|h)
     ·exact h
     ·exact .inl h
   ·simp only [List.mem_cons];constructor
    ·rintro(h|h)
     ·exact .inr h
     ·exact .inl h
    ·rintro(h|h)
     ·exact .inr h
     ·exact .inl h
theorem bBu (s:Str): ∀l,SS l->SS (pG l s)
 | [],_=>by simp [pG,SS]
 |y::l,h=>by
  unfold SS at h;rw [List.pairwise_cons]at h;rw [pG];split
  ·rename_i c;refine List.pairwise_cons.2 ⟨λx a=>?_,bBu s l h.2⟩;rcases(aMq s x l).1 a with q|rfl
   ·exact h.1 x q
   ·exact c
  ·rename_i c;have c:slt y s=false:=by simpa using c
   split
   ·exact List.pairwise_cons.2 h
   ·rename_i d;have e:slt s y=true:=by
     cases z:slt s y with
     |true=>rfl
     |false=>exact absurd (aFu y s c z) d
    refine List.pairwise_cons.2 ⟨λx a=>?_,List.pairwise_cons.2 h⟩;rcases List.mem_cons.1 a with rfl|q
    ·exact e
    ·exact sK s y x e (h.1 x q)
theorem aLp (s:Str): ∀l,(pG l s).length<=l.length+1
 | []=>by simp [pG]
 |y::l=>by
  rw [pG];split
  ·simp only [List.length_cons];have:=aLp s l;omega
  ·split<;>simp
theorem aNl (x:Str): ∀(xs l:List Str),x∈xs.foldl pG l↔x∈l\/x∈xs
 | [],l=>by simp
 |y::xs,l=>by rw [List.foldl_cons,aNl x xs,aMq,List.mem_cons,or_assoc]
theorem bCk: ∀(xs l:List Str),SS l->SS (xs.foldl pG l)
 | [],_,h=>h
 |y::xs,l,h=>bCk xs _ (bBu y l h)
theorem aAi: ∀(xs l:List Str),(xs.foldl pG l).length<=l.length+xs.length
 | [],l=>by simp
 |y::xs,l=>by
  rw [List.foldl_cons];have:=aAi xs (pG l y);have:=aLp y l;simp only [List.length_cons];omega
theorem srtS_mem (x:Str)(l:List Str):x∈aDp l↔x∈l:=List.mem_mergeSort
theorem srtS_asc (l:List Str):(aDp l).Pairwise λa b=>slt b a=false:=by
 have:=List.pairwise_mergeSort (le:=λx y:Str=> !slt y x) (λa b c d e=>by
  simp only [Bool.not_eq_true']at *
  exact aNf c b a e d) (λa b=>by
  cases h:slt b a with
  |false=>rfl
  |true=>simp [aPk h]) l
 exact this.imp λh=>by simpa using h
theorem aHz (d:Array Str) (hd: ∀i j,i<j->j<d.size->slt d[j]! d[i]! =false): ∀m,m<=d.size->SS (Lib.compactUpTo d m)/\(∀x,x∈Lib.compactUpTo d m↔ ∃j,j<m/\d[j]! =x)/\(∀x∈Lib.compactUpTo d m,x=d[m-1]! \/slt x d[m-1]! =true)
 |0,_=>by simp [Lib.compactUpTo,SS]
 |m+1,hm=>by
  obtain⟨n,o,k⟩:=aHz d hd m (by omega);have f: ∀x,(∃j,j<m+1/\d[j]! =x)↔(∃j,j<m/\d[j]! =x)\/x=d[m]! :=by
   intro x;constructor
   ·rintro⟨j,p,e⟩
    by_cases c:j=m
    ·subst c;exact .inr e.symm
    ·exact .inl ⟨j,by omega,e⟩
   ·rintro(⟨j,p,e⟩|e)
    ·exact⟨j,by omega,e⟩
    ·exact⟨m,by omega,e.symm⟩
  rw [Lib.compactUpTo_succ,Nat.add_sub_cancel]
  by_cases c:m=0
  ·subst c;have:Lib.keeps d 0=true:=Lib.keeps_lt_one d 0 (by omega);rw [this,if_pos rfl];have r:Lib.compactUpTo d 0=[]:=rfl;rw [r,List.nil_append];refine⟨by simp [SS],λx=>?_,λx f=> .inl (mS.1 f)⟩;rw [f];simp
  ·by_cases q:d[m]! =d[m-1]!
   ·rw [Lib.keeps_neg (by omega) q,if_neg (by simp),List.append_nil,q];refine⟨n,λx=>?_,k⟩;rw [f,o];constructor
    ·exact .inl
    ·rintro(h|h)
     ·exact h
     ·exact⟨m-1,by omega,by rw [<-q];exact h.symm⟩
   ·have lt:slt d[m-1]! d[m]! =true:=by
     cases z:slt d[m-1]! d[m]! with
     |true=>rfl
     |false=>exact absurd (aFu _ _ (hd (m-1) m (by omega) (by omega)) z) q
    rw [Lib.keeps_pos q,if_pos rfl];refine⟨?_,λx=>?_,λx l=>?_⟩
    ·unfold SS;rw [List.pairwise_append];refine⟨n,by simp,λa s _ t=>?_⟩;obtain rfl:=mS.1 t;rcases k a s with e|e
     ·rw [e];exact lt
     ·exact sK _ _ _ e lt
    ·rw [mA,o,mS,f]
    ·rcases mA.1 l with h|h
     ·rcases k x h with e|e
      ·rw [e];exact .inr lt
      ·exact .inr (sK _ _ _ e lt)
     ·exact .inl (mS.1 h)
theorem bAr (l:List Str):SS (qM (aDp l))/\ ∀x,x∈qM (aDp l)↔x∈l:=by
 have d:=srtS_asc l;obtain⟨f,h,-⟩:=aHz (aDp l).toArray (λi j c a=>by
  have b:j<(aDp l).length:=by simpa using a
  rw [List.pairwise_iff_getElem]at d;have:=d i j (by omega) b c;simpa [getElem!_pos,b,show i<(aDp l).length by omega]using this) (aDp l).length (by simp)
 refine⟨f,λx=>?_⟩;show x∈Lib.compactUpTo _ _↔_;rw [h,<-srtS_mem x l,List.mem_iff_getElem];constructor
 ·rintro⟨j,a,e⟩;exact⟨j,a,by simpa [getElem!_pos,a]using e⟩
 ·rintro⟨j,a,e⟩;exact⟨j,a,by simpa [getElem!_pos,a]using e⟩
theorem aVj (l:List Str):qM (aDp l)=l.foldl pG []:=
 (bAr l).1.ext (bCk l [] (by simp [SS])) λ_=>by rw [(bAr l).2,aNl];simp
def ahd (s:Str)(l:List Str):Nat:=(l.takeWhile λx=>slt x s).length
theorem ahd_le (s:Str): ∀l,ahd s l<=l.length
 | []=>Nat.le_refl _
 |x::l=>by
  unfold ahd;rw [List.takeWhile_cons];split
  ·simp only [List.length_cons];have:=ahd_le s l;unfold ahd at this;omega
  ·simp
theorem bAl (s:Str): ∀l,pG l s=if l[ahd s l]? =some s then l else l.take (ahd s l)++s::l.drop (ahd s l)
 | []=>by simp [pG,ahd]
 |x::l=>by
  have a:=bAl s l;unfold ahd at *
  rw [pG,List.takeWhile_cons]
  by_cases c:slt x s=true
  ·rw [if_pos c,if_pos c,List.length_cons,List.getElem?_cons_succ,a];split<;>simp
  ·rw [if_neg c,if_neg c]
   by_cases d:x=s
   ·subst d;simp
   ·rw [if_neg d];simp [d]
theorem put_loop (l:List Str)(s:Str)(q:l.length<=9223372036854775807):Fga l s 0=some (ahd s l:Int):=by
 unfold Fga;have p: ∀(B:(Int->Option Int)->Int->Option Int) (_: ∀k (i:Int),B k i=gB (gJ (l.length:Int) λb=>gJ (decide (i<b)) λe=>gQ e (gB (at' l i) λh=>gJ (slt h s) λj=>some j) (some false)) λn=>gQ n (gJ (IntKind.i64.wrap (i+1)) λo=>k o) (some i))
   (d i:Nat) (a:Nat),i+d=l.length->d<a->dW B a (i:Int)=some ((i+ahd s (l.drop i):Nat):Int):=by
  intro B r d
  induction d with
  |zero=>
   intro i a t u;obtain⟨f,rfl⟩: ∃f,a=f+1:=⟨a-1,by omega⟩;obtain rfl:i=l.length:=by omega
   rw [dW,r];simp only [zI,yN,zQ,zC,List.drop_length];rfl
  |succ d v=>
   intro i a t u;obtain⟨f,rfl⟩: ∃f,a=f+1:=⟨a-1,by omega⟩;have hi:i<l.length:=by omega
   have w:l[i]? =some l[i]:=gE hi;rw [dW,r];simp only [zI];rw [yM hi,zU,yR w,zC,zC,List.drop_eq_getElem_cons hi]
   cases c:slt l[i] s with
   |true=>
    rw [zU,fQ hi q,v (i+1) f (by omega) (by omega)];unfold ahd;rw [List.takeWhile_cons,c,if_pos rfl,List.length_cons]
    congr 1;omega
   |false=>
    rw [zQ];unfold ahd;rw [List.takeWhile_cons,c,if_neg (by simp)];rfl
 unfold fK;refine(p _ (λ_ _=>rfl) l.length 0 FU (by omega) (mM q)).trans ?_;rw [List.drop_zero,Nat.zero_add]
theorem put_eq (l:List Str) (s:Str) (p:l.length<=1000000):Fam l s=some (pG l s):=by
 have n:=ahd_le s l;unfold Fam;rw [put_loop l s (by omega),zC,bAl];simp only [zI];have o:sub' l (ahd s l:Int) (l.length:Int)=some (l.drop (ahd s l)):=by
  unfold sub';rw [if_pos (by omega),Int.toNat_natCast,List.take_of_length_le (by rw [List.length_drop];omega)]
 have a:gB (sub' l 0 (ahd s l:Int)) (λb=>gB (app' 16 ([]:List Str) b) λf=>gB (sub' l (ahd s l:Int) (l.length:Int)) λh=>gB (app' 16 f ([s]:List Str)) λi=>gB (app' 16 i h) λj=>some j)=some (l.take (ahd s l)++s::l.drop (ahd s l)):=by
  rw [aZw l n,zC,aIa [] _ (by simp;omega),zC,o,zC,aIa _ [s] (by simp;omega),zC,aIa _ _ (by simp;omega),zC];simp
 by_cases c:ahd s l<l.length
 ·have k:l[ahd s l]? =some l[ahd s l]:=gE c;rw [yM c,zU,yR k,zC,zC,k]
  by_cases d:l[ahd s l]=s
  ·rw [dT d,zU,if_pos (by rw [d])]
  ·rw [qD d,zQ,if_neg (by simpa using d)];exact a
 ·have e:ahd s l=l.length:=by omega
  rw [qD (by omega),zQ,zC,zQ,if_neg (by rw [List.getElem?_eq_none (by omega)];simp)];exact a
theorem bBa: ∀(n:Nat) (c:Cond) (l:List Str),dN c<=n->okC c->l.length+2*cN c<=1000000->Fao n l c=some ((kH c).foldl pG l)
 |0,c,_,h,_,_=>by have:=uF c;omega
 |n+1,c,l,h,N,_=>by
  have z:=((mQ c).1 N).2.1;have S:=wI c;have hd:=aIm c;show Fbv (Fao n) l c=_;have D: ∃q,((nm1 c).foldl pG l)=q:=⟨_,rfl⟩;obtain⟨q,D⟩:=D;have T:q.length<=l.length+2:=by rw [<-D];have:=aAi (nm1 c) l;have:=aRp c;omega
  have head:(gB (gB (gJ (decide (c.Kind=3)) λj=>gB (gQ j (some true) (gJ (decide (c.Kind=4)) λo=>some o)) λp=>gQ p (some true) (gJ (decide (c.Kind=5)) λr=>some r)) λt=>gQ t (gB (Fam l c.Name) λu=>some u) (some l)) λv=>
    gB (gJ (decide (c.Kind=4)) λw=>gQ w (gB (Fam v c.Other) λx=>some x) (some v)) λy=>(some y:Option (List Str)))=some q:=by
   rw [<-D];unfold nm1;simp only [zI]
   by_cases E:c.Kind=3
   ·simp only [E,decide_true,zU,zC,true_or,if_pos];rw [put_eq l _ (by omega),zC,zC];simp only [show¬((3:Int)=4)by decide,decide_false,zQ,zC,List.foldl_cons,List.foldl_nil]
   ·by_cases O:c.Kind=4
    ·simp only [O,decide_true,zU,zC,show¬((4:Int)=3)by decide,show¬((4:Int)=5)by decide,decide_false,zQ,or_self,if_false,if_true];rw [put_eq l _ (by omega),zC,zC];have:=aLp c.Name l;rw [put_eq _ _ (by omega),zC,zC];rfl
    ·by_cases P:c.Kind=5
     ·simp only [P,decide_true,zU,zC,show¬((5:Int)=3)by decide,show¬((5:Int)=4)by decide,decide_false,zQ,or_true,if_true];rw [put_eq l _ (by omega),zC,zC];rfl
     ·simp only [E,O,P,decide_false,zQ,zC,or_self,if_false];rfl
  have tail:Fc5 (Fao n) c (q,0)=some ((uM c.Kids).foldl pG q):=by
   unfold Fc5;have M: ∀(B:(List Str×Int->Option (List Str))->List Str×Int->Option (List Str)) (_: ∀k (s:List Str) (i:Int),B k (s,i)=gJ (c.Kids.length:Int) λF=>gJ (decide (i<F)) λG=>gQ G (gB (at' c.Kids i) λH=>gB (Fao n s H) λI=>gJ (IntKind.i64.wrap (i+1)) λJ=>k (I,J)) (some s))
     (d i:Nat) (s:List Str) (C:Nat),i+d=c.Kids.length->d<C->s.length+2*cNs (c.Kids.drop i)<=1000000->dW B C (s,(i:Int))=some ((uM (c.Kids.drop i)).foldl pG s):=by
    intro B Q d
    induction d with
    |zero=>
     intro i s C X Y E;obtain⟨f,rfl⟩: ∃f,C=f+1:=⟨C-1,by omega⟩;obtain rfl:i=c.Kids.length:=by omega
     rw [dW,Q];simp only [zI,yN,zQ,List.drop_length,uM,List.foldl_nil]
    |succ d ih=>
     intro i s C X Y E;obtain⟨f,rfl⟩: ∃f,C=f+1:=⟨C-1,by omega⟩;have hi:i<c.Kids.length:=by omega
     have R:c.Kids[i]? =some c.Kids[i]:=gE hi;obtain⟨k1,_,_⟩:=qF N R;have K:=List.drop_eq_getElem_cons hi;rw [K,cNs]at E;have hl:=jI c.Kids[i];have hp:=aAi (kH c.Kids[i]) s;rw [dW,Q];simp only [zI];rw [yM hi,zU,yR R,zC,bBa n _ s (by omega) k1 (by omega),zC,fQ hi z,ih (i+1) _ f (by omega) (by omega) (by omega),K,uM,List.foldl_append]
   unfold fK;refine(M _ (λ_ _ _=>rfl) c.Kids.length 0 q FU (by omega) (mM z) (by rw [List.drop_zero];omega)).trans ?_;rw [List.drop_zero]
  have e:Fbv (Fao n) l c=gB (gB (gB (gJ (decide (c.Kind=3)) λj=>gB (gQ j (some true) (gJ (decide (c.Kind=4)) λo=>some o)) λp=>gQ p (some true) (gJ (decide (c.Kind=5)) λr=>some r)) λt=>gQ t (gB (Fam l c.Name) λu=>some u) (some l)) λv=>
    gB (gJ (decide (c.Kind=4)) λw=>gQ w (gB (Fam v c.Other) λx=>some x) (some v)) λy=>(some y:Option (List Str))) λy=>gB (Fc5 (Fao n) c (y,0)) λL=>some L:=by
   unfold Fbv;generalize (gB (gJ (decide (c.Kind=3)) λj=>gB (gQ j (some true) (gJ (decide (c.Kind=4)) λo=>some o)) λp=>gQ p (some true) (gJ (decide (c.Kind=5)) λr=>some r)) λt=>gQ t (gB (Fam l c.Name) λu=>some u) (some l))=A
   cases A with
   |none=>rfl
   |some a=>
    rw [zC,zC];generalize (gJ (decide (c.Kind=4)) λw=>gQ w (gB (Fam a c.Other) λx=>some x) (some a))=B
    cases B with
    |none=>rfl
    |some _=>rfl
  rw [e,head,zC,tail,zC,<-D,aAv,List.foldl_append]
theorem aQb {c:Cond}(g:Gt c)(l:List Str)(a:l.length<=100000):Fch l c=some ((kH c).foldl pG l):=by
 have:=g.d;have:=g.n;unfold Fch;exact bBa FU c l (Nat.le_of_lt (aBu (by omega))) g.ok (by omega)
theorem aZi {r:Rules} (g:Gr' r):Fc4 r=some ((nK r).foldl pG []):=by
 have hm:=g.m;have v:=g.l;have o: ∃q,Fhf r ([],0)=some q/\q=(r.Moves.flatMap λm=>kH m.When).foldl pG []:=by
  unfold Fhf;refine aV (λ(i:Nat) (s:List Str)=>(s,(i:Int))) r.Moves (λi s=>s=((r.Moves.take i).flatMap λm=>kH m.When).foldl pG []) (λs=>s=(r.Moves.flatMap λm=>kH m.When).foldl pG []) (by omega) ?_ ?_ [] (by simp)
  ·intro k i s x b hi a;have e:=(g.mg x (qS b)).1;have f:=rJ (λm:dI=>kH m.When) 400 (r.Moves.take i) λy c=>by have:=jI y.When;have:=(g.mg y (List.mem_of_mem_take c)).1.n;omega
   have h:(r.Moves.take i).length<=60:=by simp;omega
   have d:=aAi ((r.Moves.take i).flatMap λm=>kH m.When) [];simp only [List.length_nil]at d;refine⟨(kH x.When).foldl pG s,by rw [a,take_snoc b];simp,?_⟩;simp only [zI];rw [yM hi,zU,yR b,zC,aQb e s (by rw [a];omega),zC,fQ hi (by omega)]
  ·intro k s a;simp only [zI];rw [yN,zQ];exact⟨_,rfl,by rw [a,List.take_length]⟩
 obtain⟨j,f,p⟩:=o;have t: ∃q,Fgv r (j,0)=some q/\q=(nK r).foldl pG []:=by
  unfold Fgv;refine aV (λ(i:Nat) (s:List Str)=>(s,(i:Int))) r.Rules (λi s=>s=((r.Moves.flatMap λm=>kH m.When)++(r.Rules.take i).flatMap λm=>kH m.When).foldl pG []) (λs=>s=(nK r).foldl pG []) (by omega) ?_ ?_ j (by rw [p];simp)
  ·intro k i s x b hi a;have e:=(g.lg x (qS b)).1;have w:=rJ (λm:dI=>kH m.When) 400 r.Moves λy c=>by have:=jI y.When;have:=(g.mg y c).1.n;omega
   have f:=rJ (λm:dA=>kH m.When) 400 (r.Rules.take i) λy c=>by have:=jI y.When;have:=(g.lg y (List.mem_of_mem_take c)).1.n;omega
   have h:(r.Rules.take i).length<=60:=by simp;omega
   have d:=aAi ((r.Moves.flatMap λm=>kH m.When)++(r.Rules.take i).flatMap λm=>kH m.When) [];rw [List.length_append]at d;simp only [List.length_nil]at d;refine⟨(kH x.When).foldl pG s,by rw [a,take_snoc b];simp,?_⟩;simp only [zI];rw [yM hi,zU,yR b,zC,aQb e s (by rw [a];omega),zC,fQ hi (by omega)]
  ·intro k s a;simp only [zI];rw [yN,zQ];exact⟨_,rfl,by rw [a,List.take_length];rfl⟩
 obtain⟨_,u,h⟩:=t;unfold Fc4;rw [f,zC,u,zC,h]
theorem aXn {r:Rules} (h:chk r=some 0): ∀(i:Nat) x,r.Rules[i]? =some x->nmd (r.Rules.take i) x.Name=false/\qP (pRl r i) x.When=false:=by
 unfold chk at h;split at h
 ·exact absurd (oI h) (by decide)
 ·obtain⟨a,_⟩:=jZ (phE r.Phases) _ _ _ h;obtain⟨c,_⟩:=jZ (λ_=>mvE r) _ _ _ a;obtain⟨_,e⟩:=jZ (rlE r) _ _ _ c;intro i x f;have:=e i x f;rw [Nat.zero_add]at this;unfold rlE at this;split at this
  ·split at this
   ·exact absurd this (by decide)
   ·rename_i b;split at this
    ·split at this
     ·exact absurd this (by decide)
     ·rename_i d;exact⟨by simpa using b,by simpa using d⟩
    ·rename_i d;exact absurd this d
  ·exact absurd this (by decide)
def aVm (r:Rules):List Str:=(nK r).foldl pG []
theorem aTm {r:Rules}(g:Gr' r):(aVm r).length<=48000:=by
 have:=aAi (nK r) [];have:=aOu g;simp only [List.length_nil]at *
 unfold aVm;omega
def aKs (c:Cond):Prop:=okC c
theorem okCond_mk {a0:Int}{b a2:Str}{a3 a4 a5:Int}{a:List Cond}(d:i64 a0)(e:okS b)(f:okS a2)(h:i64 a3)(i:i64 a4)(j:i64 a5)(c:a.length<=9223372036854775807/\ ∀x∈a,aKs x):aKs ⟨a0,b,a2,a3,a4,a5,a⟩:=
 (mQ _).2 ⟨⟨d,e,f,h,i,j⟩,c.1,(aAn _).2 c.2⟩
def aRs (x:dI):Prop:=okS x.From/\okS x.To/\aKs x.When
def aWj (x:dA):Prop:=okS x.Name/\aKs x.When
def aZs (x:Rules):Prop:=okL (λx=>okS x) x.Phases/\okL (λx=>aRs x) x.Moves/\okL (λx=>aWj x) x.Rules
end Go.Lf
