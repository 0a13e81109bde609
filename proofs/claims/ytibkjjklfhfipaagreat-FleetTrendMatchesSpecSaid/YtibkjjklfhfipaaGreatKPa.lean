/- Laws that the claim stands on; no condition beyond those stated. -/
import Derived.Test.YtibkjjklfhfipaaGreatSPa
namespace Go.Lf
open Go.OB
structure Gk (c:Cond):Prop where
 z:c.Kind<=7->c.Kids.length=0
 o:(c.Kind=8\/c.Kind=11\/c.Kind=12\/c.Kind=13\/c.Kind=15)->c.Kids.length=1
 t:c.Kind=14->c.Kids.length=2
 g:(c.Kind=9\/c.Kind=10)->2<=c.Kids.length
 fr:(c.Kind=5\/c.Kind=11\/c.Kind=12\/c.Kind=13)->1<=c.Frames
 cn:c.Kind=13->1<=c.N/\c.N<=c.Frames
 st:c.Kind=5->0<=c.N
 op:(c.Kind=3\/c.Kind=4)->1<=c.Op
set_option maxHeartbeats 20000000 in
theorem gk_in (nm ot:Str)(op n fr:Int)(ks:List Cond)(k:Int)(hk2:k=1\/k=2\/k=3\/k=4\/k=5\/k=6\/k=7\/k=8\/k=9\/k=10\/k=11\/k=12\/k=13\/k=14\/k=15)(h1:okS nm)(h2:okS ot)(h:Fah ⟨k,nm,ot,op,n,fr,ks⟩=some 0):Gk ⟨k,nm,ot,op,n,fr,ks⟩:=by
  rcases hk2 with rfl | rfl | rfl | rfl | rfl | rfl | rfl | rfl | rfl | rfl | rfl | rfl | rfl | rfl | rfl<;>
    (unfold Fah at h
     simp only [rf1,rf2,rf3,rf4,rf5,rf6,rf7,rf8,rf9,rf10,rf11,rf12,rf13,rf14,rf15,zB,zD,Bool.not_true,Bool.not_false,zT,zN,xA,out6,bU _ h1,bU _ h2,Int.reduceEq,Int.reduceLT,Int.reduceLE,decide_true,decide_false,Bool.or_self,aJw,aB,uV] at h;simp only [bG] at h;constructor<;>grind)
theorem gk_of {c:Cond} (d:okC c) (f:c.Kids.length<=200) (h:ck1 c=0):Gk c:=by
 have e:=(aJp c (aGz d) f).2;rw [h]at e
 by_cases a:1<=c.Kind/\c.Kind<=15
 ·have o:=aGz d;obtain⟨k,nm,i,op,n,fr,j⟩:=c;have b:k=1\/k=2\/k=3\/k=4\/k=5\/k=6\/k=7\/k=8\/k=9\/k=10\/k=11\/k=12\/k=13\/k=14\/k=15:=by have:=a.1;have:=a.2;simp only at *;omega
  exact gk_in nm i op n fr j k b o.1 o.2 e
 ·rw [(aYs c a).2]at e
  cases e
theorem Gt.gk {c:Cond}(g:Gt c):Gk c:=by
 have h:=g.e;rw [aKo]at h;have a:=aDl c.Kids;have b:=aAh c;have d:=g.n;split at h
 ·rename_i q;exact gk_of g.ok (by omega) q
 ·rename_i q;exact absurd h q
def nm1 (c:Cond):List Str:=if c.Kind=3\/c.Kind=5 then [c.Name]else if c.Kind=4 then [c.Name,c.Other]else []
mutual
def aN:Cond->List Str
 |⟨k,nm,b,op,n,fr,a⟩=>nm1 ⟨k,nm,b,op,n,fr,a⟩++uC a
def uC:List Cond->List Str
 | []=>[]
 |c::l=>aN c++uC l
end
theorem wB (c:Cond):aN c=nm1 c++uC c.Kids:=by cases c;rfl
theorem aRf (c:Cond):(nm1 c).length<=2:=by unfold nm1;split<;>(try split)<;>simp
mutual
theorem kV: ∀c,(aN c).length<=2*cN c
 |⟨k,nm,b,op,n,fr,a⟩=>by
  have h:=aOt a;have d:=aRf ⟨k,nm,b,op,n,fr,a⟩;rw [wB,List.length_append,aAh];show _+(uC a).length<=2*(1+cNs a);omega
theorem aOt: ∀l,(uC l).length<=2*cNs l
 | []=>by simp [uC]
 |c::l=>by
  have h:=kV c;have a:=aOt l;rw [uC,List.length_append,cNs];omega
end
theorem aIb {a:Type}(p q:List a)(h:p.length+q.length<=8000000000000):app' 16 p q=some (p++q):=by
 unfold app';rw [if_pos ⟨by rw [maxLen_eq];omega,by omega⟩]
theorem nm_step (c:Cond) (l:List Str) (h:l.length<=7000000000000):Fem c l=some (0,l++nm1 c):=by
 unfold Fem nm1;simp only [zD,xB]
 by_cases a:c.Kind=3
 ·simp only [a,if_pos,true_or,decide_true,zB,zT];rw [aIb l _ (by simp;omega),zB,zB]
 ·by_cases b:c.Kind=5
  ·simp only [b,show¬((5:Int)=3)by decide,if_pos,or_true,decide_true,zB,zT,if_false];rw [aIb l _ (by simp;omega),zB,zB]
  ·simp only [a,b,decide_false,zB,zN,or_self,if_false]
   by_cases d:c.Kind=4
   ·simp only [d,if_pos];rw [aIb l _ (by simp;omega),zB,zB]
   ·simp only [d,if_neg,zB,List.append_nil,not_false_eq_true]
theorem bCx: ∀(n:Nat) (c:Cond) (l:List Str),dN c<=n->okC c->l.length+2*cN c<=7000000000000->Fbj n c l=some (0,l++aN c)
 |0,c,_,h,_,_=>by have:=sG c;omega
 |n+1,c,l,h,t,_=>by
  have a:=((jO c).1 t).2.1;have z:=aAh c;have u:=aRf c;show Fcx (Fbj n) c l=_;unfold Fcx;rw [nm_step c l (by omega),zB];simp only [zD,xA];rw [qD (by simp),zN];unfold Ff5;have r: ∀(B:(Int×List Str->Option (Int×List Str))->Int×List Str->Option (Int×List Str)) (_: ∀k (i:Int) (s:List Str),B k (i,s)=gJ (decide (i<(c.Kids.length:Int))) λx=>gQ x (gG (at' c.Kids i) λe=>gG (Fbj n e s) λp=>gJ (decide (p.1≠0)) λj=>gQ j (some (p.1,p.2)) (gJ (IntKind.i64.wrap (i+1)) λo=>k (o,p.2))) (some (0,s)))
    (d i:Nat) (s:List Str) (b:Nat),i+d=c.Kids.length->d<b->s.length+2*cNs (c.Kids.drop i)<=7000000000000->eQ B b ((i:Int),s)=some (0,s++uC (c.Kids.drop i)):=by
   intro B v d
   induction d with
   |zero=>
    intro i s b u A w;obtain⟨f,rfl⟩: ∃f,b=f+1:=⟨b-1,by omega⟩;obtain rfl:i=c.Kids.length:=by omega
    rw [eQ,v];simp only [zD,yJ,zN,List.drop_length,uC,List.append_nil]
   |succ d C=>
    intro i s b u A w;obtain⟨f,rfl⟩: ∃f,b=f+1:=⟨b-1,by omega⟩;have hi:i<c.Kids.length:=by omega
    have y:c.Kids[i]? =some c.Kids[i]:=gE hi;obtain⟨D,_,_⟩:=sF t y;have q:=List.drop_eq_getElem_cons hi;rw [q,cNs]at w;have H:=kV c.Kids[i];rw [eQ,v];simp only [zD];rw [yH hi,zT,yF y,zB,bCx n _ s (by omega) D (by omega),zB];simp only [];rw [qD (by simp),zN,fG hi a,C (i+1) _ f (by omega) (by omega) (by rw [List.length_append];omega),q,uC,List.append_assoc]
  unfold fB;refine(r _ (λ_ _ _=>rfl) c.Kids.length 0 (l++nm1 c) FU (by omega) (jF a) (by rw [List.length_append,List.drop_zero];omega)).trans ?_;rw [List.drop_zero,List.append_assoc,<-wB]
theorem aMg {c:Cond}(g:Gt c):Fb5 c=some (aN c):=by
 have:=g.d;have:=g.n;unfold Fb5 Ffp;rw [bCx FU c [] (Nat.le_of_lt (aBh (by omega))) g.ok (by simp;omega),zB,List.nil_append]
def bI (r:Rules):List Str:=(r.Moves.flatMap λm=>aN m.When)++r.Rules.flatMap λx=>aN x.When
theorem qO {a:Type}(f:a->List Str)(K:Nat): ∀(l:List a),(∀x∈l,(f x).length<=K)->(l.flatMap f).length<=l.length*K
 | [],_=>by simp
 |x::l,h=>by
  have c:=h x List.mem_cons_self;have d:=qO f K l λy b=>h y (List.mem_cons_of_mem _ b)
  rw [List.flatMap_cons,List.length_append,List.length_cons,Nat.succ_mul];omega
theorem aPs {r:Rules}(g:Gr' r):(bI r).length<=48000:=by
 have b:=qO (λm:dC=>aN m.When) 400 r.Moves λx a=>by have:=kV x.When;have:=(g.mg x a).1.n;omega
 have c:=qO (λm:Rule=>aN m.When) 400 r.Rules λx a=>by have:=kV x.When;have:=(g.lg x a).1.n;omega
 have:=g.m;have:=g.l;unfold bI;rw [List.length_append];omega
theorem aWk {r:Rules} (g:Gr' r):Fdf r=some (kX (vF (bI r))):=by
 have hm:=g.m;have u:=g.l;have h:Fe6 r (r.Moves.length:Int) ([],0)=some (r.Moves.flatMap λm=>aN m.When):=by
  have b: ∃q,Fe6 r (r.Moves.length:Int) ([],0)=some q/\q=r.Moves.flatMap λm=>aN m.When:=by
   unfold Fe6;refine kZ (λ(i:Nat) (s:List Str)=>(s,(i:Int))) r.Moves (λi s=>s=(r.Moves.take i).flatMap λm=>aN m.When) (λs=>s=r.Moves.flatMap λm=>aN m.When) (by omega) ?_ ?_ [] (by simp)
   ·intro k i s x c hi a;have d:=(g.mg x (qS c)).1;have e:=qO (λm:dC=>aN m.When) 400 (r.Moves.take i) λy f=>by have:=kV y.When;have:=(g.mg y (List.mem_of_mem_take f)).1.n;omega
    have j:=kV x.When;have o:=d.n;have p:(r.Moves.take i).length<=60:=by simp;omega
    refine⟨s++aN x.When,by rw [a,take_snoc c];simp,?_⟩;simp only [zD];rw [yH hi,zT,yF c,zB,aMg d,zB,aIb s _ (by rw [a];omega),zB,fG hi (by omega)]
   ·intro k s a;simp only [zD];rw [yJ,zN];exact⟨_,rfl,by rw [a,List.take_length]⟩
  obtain⟨q,e,rfl⟩:=b;exact e
 have t:Fd4 r (r.Rules.length:Int) (r.Moves.flatMap (λm=>aN m.When),0)=some (bI r):=by
  have b: ∃q,Fd4 r (r.Rules.length:Int) (r.Moves.flatMap (λm=>aN m.When),0)=some q/\q=bI r:=by
   unfold Fd4;refine kZ (λ(i:Nat) (s:List Str)=>(s,(i:Int))) r.Rules (λi s=>s=(r.Moves.flatMap λm=>aN m.When)++(r.Rules.take i).flatMap λm=>aN m.When) (λs=>s=bI r) (by omega) ?_ ?_ _ (by simp)
   ·intro k i s x c hi a;have d:=(g.lg x (qS c)).1;have v:=qO (λm:dC=>aN m.When) 400 r.Moves λy f=>by have:=kV y.When;have:=(g.mg y f).1.n;omega
    have e:=qO (λm:Rule=>aN m.When) 400 (r.Rules.take i) λy f=>by have:=kV y.When;have:=(g.lg y (List.mem_of_mem_take f)).1.n;omega
    have j:=kV x.When;have o:=d.n;have p:(r.Rules.take i).length<=60:=by simp;omega
    refine⟨s++aN x.When,by rw [a,take_snoc c];simp,?_⟩;simp only [zD];rw [yH hi,zT,yF c,zB,aMg d,zB,aIb s _ (by rw [a,List.length_append];omega),zB,fG hi (by omega)]
   ·intro k s a;simp only [zD];rw [yJ,zN];exact⟨_,rfl,by rw [a,List.take_length];rfl⟩
  obtain⟨q,e,rfl⟩:=b;exact e
 have w:=aPs g;unfold Fdf;simp only [zD];rw [h,zB,t,zB];unfold Fe8 Fdo;rw [if_pos (by omega),zB,if_pos (by rw [aUx];omega),zB]
def SS (l:List Str):Prop:=l.Pairwise λa b=>slt a b=true
theorem SS.ext {l m:List Str} (c:SS l) (d:SS m) (h: ∀x,x∈l↔x∈m):l=m:=by
 induction l generalizing m with
 |nil=>
  cases m with
  |nil=>rfl
  |cons b m=>exact absurd ((h b).2 List.mem_cons_self) (by simp)
 |cons a l j=>
  cases m with
  |nil=>exact absurd ((h a).1 List.mem_cons_self) (by simp)
  |cons b m=>
   unfold SS at c d;rw [List.pairwise_cons]at c d;have e:a=b:=by
    rcases List.mem_cons.1 ((h a).1 List.mem_cons_self)with q|q
    ·exact q
    ·rcases List.mem_cons.1 ((h b).2 List.mem_cons_self)with i|i
     ·exact i.symm
     ·have:=aPf (d.1 a q);rw [c.1 b i]at this;cases this
   subst e;rw [j c.2 d.2 λx=>?_];constructor
   ·intro f;rcases List.mem_cons.1 ((h x).1 (List.mem_cons_of_mem _ f))with q|q
    ·subst q;have:=c.1 x f;rw [pU]at this;cases this
    ·exact q
   ·intro f;rcases List.mem_cons.1 ((h x).2 (List.mem_cons_of_mem _ f))with q|q
    ·subst q;have:=d.1 x f;rw [pU]at this;cases this
    ·exact q
def nM:List Str->Str->List Str
 | [],s=>[s]
 |x::l,s=>if slt x s=true then x::nM l s else if x=s then x::l else s::x::l
theorem aLp (s x:Str): ∀l,x∈nM l s↔x∈l\/x=s
 | []=>by simp [nM]
 |y::l=>by
  rw [nM];split
  ·rw [List.mem_cons,aLp s x l,List.mem_cons];simp only [or_assoc]
  ·split
   ·rename_i q;subst q;simp only [List.mem_cons];constructor
    ·exact .inl
    ·rintro(h|h)
     ·exact h
     ·exact .inl h
   ·simp only [List.mem_cons];constructor
    ·rintro(h|h)
     ·exact .inr h
     ·exact .inl h
    ·rintro(h|h)
     ·exact .inr h
     ·exact .inl h
theorem bAy (s:Str): ∀l,SS l->SS (nM l s)
 | [],_=>by simp [nM,SS]
 |y::l,h=>by
  unfold SS at h;rw [List.pairwise_cons]at h;rw [nM];split
  ·rename_i c;refine List.pairwise_cons.2 ⟨λx a=>?_,bAy s l h.2⟩;rcases(aLp s x l).1 a with q|rfl
   ·exact h.1 x q
   ·exact c
  ·rename_i c;have c:slt y s=false:=by simpa using c
   split
   ·exact List.pairwise_cons.2 h
   ·rename_i d;have e:slt s y=true:=by
     cases z:slt s y with
     |true=>rfl
     |false=>exact absurd (aFf y s c z) d
    refine List.pairwise_cons.2 ⟨λx a=>?_,List.pairwise_cons.2 h⟩;rcases List.mem_cons.1 a with rfl|q
    ·exact e
    ·exact rH s y x e (h.1 x q)
theorem aMb (s:Str): ∀l,(nM l s).length<=l.length+1
 | []=>by simp [nM]
 |y::l=>by
  rw [nM];split
  ·simp only [List.length_cons];have:=aMb s l;omega
  ·split<;>simp
theorem aWd (x:Str): ∀(a l:List Str),x∈a.foldl nM l↔x∈l\/x∈a
 | [],l=>by simp
 |y::a,l=>by rw [List.foldl_cons,aWd x a,aLp,List.mem_cons,or_assoc]
theorem bCv: ∀(a l:List Str),SS l->SS (a.foldl nM l)
 | [],_,h=>h
 |y::a,l,h=>bCv a _ (bAy y l h)
theorem wY: ∀(a l:List Str),(a.foldl nM l).length<=l.length+a.length
 | [],l=>by simp
 |y::a,l=>by
  rw [List.foldl_cons];have:=wY a (nM l y);have:=aMb y l;simp only [List.length_cons];omega
theorem srtS_mem (x:Str)(l:List Str):x∈vF l↔x∈l:=List.mem_mergeSort
theorem srtS_asc (l:List Str):(vF l).Pairwise λa b=>slt b a=false:=by
 have:=List.pairwise_mergeSort (le:=λx y:Str=> !slt y x) (λa b c d e=>by
  simp only [Bool.not_eq_true']at *
  exact aNr c b a e d) (λa b=>by
  cases h:slt b a with
  |false=>rfl
  |true=>simp [aPf h]) l
 exact this.imp λh=>by simpa using h
theorem aHu (d:Array Str) (hd: ∀i j,i<j->j<d.size->slt d[j]! d[i]! =false): ∀m,m<=d.size->SS (Lib.compactUpTo d m)/\(∀x,x∈Lib.compactUpTo d m↔ ∃j,j<m/\d[j]! =x)/\(∀x∈Lib.compactUpTo d m,x=d[m-1]! \/slt x d[m-1]! =true)
 |0,_=>by simp [Lib.compactUpTo,SS]
 |m+1,hm=>by
  obtain⟨n,o,k⟩:=aHu d hd m (by omega);have f: ∀x,(∃j,j<m+1/\d[j]! =x)↔(∃j,j<m/\d[j]! =x)\/x=d[m]! :=by
   intro x;constructor
   ·rintro⟨j,p,e⟩
    by_cases c:j=m
    ·subst c;exact .inr e.symm
    ·exact .inl ⟨j,by omega,e⟩
   ·rintro(⟨j,p,e⟩|e)
    ·exact⟨j,by omega,e⟩
    ·exact⟨m,by omega,e.symm⟩
  rw [Lib.compactUpTo_succ,Nat.add_sub_cancel]
  by_cases c:m=0
  ·subst c;have:Lib.keeps d 0=true:=Lib.keeps_lt_one d 0 (by omega);rw [this,if_pos rfl];have r:Lib.compactUpTo d 0=[]:=rfl;rw [r,List.nil_append];refine⟨by simp [SS],λx=>?_,λx f=> .inl (mS.1 f)⟩;rw [f];simp
  ·by_cases q:d[m]! =d[m-1]!
   ·rw [Lib.keeps_neg (by omega) q,if_neg (by simp),List.append_nil,q];refine⟨n,λx=>?_,k⟩;rw [f,o];constructor
    ·exact .inl
    ·rintro(h|h)
     ·exact h
     ·exact⟨m-1,by omega,by rw [<-q];exact h.symm⟩
   ·have lt:slt d[m-1]! d[m]! =true:=by
     cases z:slt d[m-1]! d[m]! with
     |true=>rfl
     |false=>exact absurd (aFf _ _ (hd (m-1) m (by omega) (by omega)) z) q
    rw [Lib.keeps_pos q,if_pos rfl];refine⟨?_,λx=>?_,λx l=>?_⟩
    ·unfold SS;rw [List.pairwise_append];refine⟨n,by simp,λa s _ t=>?_⟩;obtain rfl:=mS.1 t;rcases k a s with e|e
     ·rw [e];exact lt
     ·exact rH _ _ _ e lt
    ·rw [mA,o,mS,f]
    ·rcases mA.1 l with h|h
     ·rcases k x h with e|e
      ·rw [e];exact .inr lt
      ·exact .inr (rH _ _ _ e lt)
     ·exact .inl (mS.1 h)
theorem aFg (l:List Str):SS (kX (vF l))/\ ∀x,x∈kX (vF l)↔x∈l:=by
 have d:=srtS_asc l;obtain⟨f,h,-⟩:=aHu (vF l).toArray (λi j c a=>by
  have b:j<(vF l).length:=by simpa using a
  rw [List.pairwise_iff_getElem]at d;have:=d i j (by omega) b c;simpa [getElem!_pos,b,show i<(vF l).length by omega]using this) (vF l).length (by simp)
 refine⟨f,λx=>?_⟩;show x∈Lib.compactUpTo _ _↔_;rw [h,<-srtS_mem x l,List.mem_iff_getElem];constructor
 ·rintro⟨j,a,e⟩;exact⟨j,a,by simpa [getElem!_pos,a]using e⟩
 ·rintro⟨j,a,e⟩;exact⟨j,a,by simpa [getElem!_pos,a]using e⟩
theorem aIm (l:List Str):kX (vF l)=l.foldl nM []:=
 (aFg l).1.ext (bCv l [] (by simp [SS])) λ_=>by rw [(aFg l).2,aWd];simp
def ahd (s:Str)(l:List Str):Nat:=(l.takeWhile λx=>slt x s).length
theorem ahd_le (s:Str): ∀l,ahd s l<=l.length
 | []=>Nat.le_refl _
 |x::l=>by
  unfold ahd;rw [List.takeWhile_cons];split
  ·simp only [List.length_cons];have:=ahd_le s l;unfold ahd at this;omega
  ·simp
theorem bBg (s:Str): ∀l,nM l s=if l[ahd s l]? =some s then l else l.take (ahd s l)++s::l.drop (ahd s l)
 | []=>by simp [nM,ahd]
 |x::l=>by
  have a:=bBg s l;unfold ahd at *
  rw [nM,List.takeWhile_cons]
  by_cases c:slt x s=true
  ·rw [if_pos c,if_pos c,List.length_cons,List.getElem?_cons_succ,a];split<;>simp
  ·rw [if_neg c,if_neg c]
   by_cases d:x=s
   ·subst d;simp
   ·rw [if_neg d];simp [d]
theorem put_loop (l:List Str)(s:Str)(q:l.length<=9223372036854775807):Fhd l s 0=some (ahd s l:Int):=by
 unfold Fhd;have p: ∀(B:(Int->Option Int)->Int->Option Int) (_: ∀k (i:Int),B k i=gG (gJ (l.length:Int) λb=>gJ (decide (i<b)) λe=>gQ e (gG (at' l i) λh=>gJ (slt h s) λj=>some j) (some false)) λn=>gQ n (gJ (IntKind.i64.wrap (i+1)) λo=>k o) (some i))
   (d i:Nat) (a:Nat),i+d=l.length->d<a->eQ B a (i:Int)=some ((i+ahd s (l.drop i):Nat):Int):=by
  intro B r d
  induction d with
  |zero=>
   intro i a t u;obtain⟨f,rfl⟩: ∃f,a=f+1:=⟨a-1,by omega⟩;obtain rfl:i=l.length:=by omega
   rw [eQ,r];simp only [zD,yJ,zN,zB,List.drop_length];rfl
  |succ d v=>
   intro i a t u;obtain⟨f,rfl⟩: ∃f,a=f+1:=⟨a-1,by omega⟩;have hi:i<l.length:=by omega
   have w:l[i]? =some l[i]:=gE hi;rw [eQ,r];simp only [zD];rw [yH hi,zT,yF w,zB,zB,List.drop_eq_getElem_cons hi]
   cases c:slt l[i] s with
   |true=>
    rw [zT,fG hi q,v (i+1) f (by omega) (by omega)];unfold ahd;rw [List.takeWhile_cons,c,if_pos rfl,List.length_cons]
    congr 1;omega
   |false=>
    rw [zN];unfold ahd;rw [List.takeWhile_cons,c,if_neg (by simp)];rfl
 unfold fB;refine(p _ (λ_ _=>rfl) l.length 0 FU (by omega) (jF q)).trans ?_;rw [List.drop_zero,Nat.zero_add]
theorem put_eq (l:List Str) (s:Str) (p:l.length<=1000000):Fan l s=some (nM l s):=by
 have n:=ahd_le s l;unfold Fan;rw [put_loop l s (by omega),zB,bBg];simp only [zD];have o:sub' l (ahd s l:Int) (l.length:Int)=some (l.drop (ahd s l)):=by
  unfold sub';rw [if_pos (by omega),Int.toNat_natCast,List.take_of_length_le (by rw [List.length_drop];omega)]
 have a:gG (sub' l 0 (ahd s l:Int)) (λb=>gG (app' 16 ([]:List Str) b) λf=>gG (sub' l (ahd s l:Int) (l.length:Int)) λh=>gG (app' 16 f ([s]:List Str)) λi=>gG (app' 16 i h) λj=>some j)=some (l.take (ahd s l)++s::l.drop (ahd s l)):=by
  rw [aJm l n,zB,aIb [] _ (by simp;omega),zB,o,zB,aIb _ [s] (by simp;omega),zB,aIb _ _ (by simp;omega),zB];simp
 by_cases c:ahd s l<l.length
 ·have k:l[ahd s l]? =some l[ahd s l]:=gE c;rw [yH c,zT,yF k,zB,zB,k]
  by_cases d:l[ahd s l]=s
  ·rw [dT d,zT,if_pos (by rw [d])]
  ·rw [qD d,zN,if_neg (by simpa using d)];exact a
 ·have e:ahd s l=l.length:=by omega
  rw [qD (by omega),zN,zB,zN,if_neg (by rw [List.getElem?_eq_none (by omega)];simp)];exact a
theorem bDa: ∀(n:Nat) (c:Cond) (l:List Str),dN c<=n->okC c->l.length+2*cN c<=1000000->Fao n l c=some ((aN c).foldl nM l)
 |0,c,_,h,_,_=>by have:=sG c;omega
 |n+1,c,l,h,N,_=>by
  have z:=((jO c).1 N).2.1;have S:=aAh c;have hd:=aPh c;show Fbs (Fao n) l c=_;have D: ∃q,((nm1 c).foldl nM l)=q:=⟨_,rfl⟩;obtain⟨q,D⟩:=D;have T:q.length<=l.length+2:=by rw [<-D];have:=wY (nm1 c) l;have:=aRf c;omega
  have head:(gG (gG (gJ (decide (c.Kind=3)) λj=>gG (gQ j (some true) (gJ (decide (c.Kind=4)) λo=>some o)) λp=>gQ p (some true) (gJ (decide (c.Kind=5)) λr=>some r)) λt=>gQ t (gG (Fan l c.Name) λu=>some u) (some l)) λv=>
    gG (gJ (decide (c.Kind=4)) λw=>gQ w (gG (Fan v c.Other) λx=>some x) (some v)) λy=>(some y:Option (List Str)))=some q:=by
   rw [<-D];unfold nm1;simp only [zD]
   by_cases E:c.Kind=3
   ·simp only [E,decide_true,zT,zB,true_or,if_pos];rw [put_eq l _ (by omega),zB,zB];simp only [show¬((3:Int)=4)by decide,decide_false,zN,zB,List.foldl_cons,List.foldl_nil]
   ·by_cases O:c.Kind=4
    ·simp only [O,decide_true,zT,zB,show¬((4:Int)=3)by decide,show¬((4:Int)=5)by decide,decide_false,zN,or_self,if_false,if_true];rw [put_eq l _ (by omega),zB,zB];have:=aMb c.Name l;rw [put_eq _ _ (by omega),zB,zB];rfl
    ·by_cases P:c.Kind=5
     ·simp only [P,decide_true,zT,zB,show¬((5:Int)=3)by decide,show¬((5:Int)=4)by decide,decide_false,zN,or_true,if_true];rw [put_eq l _ (by omega),zB,zB];rfl
     ·simp only [E,O,P,decide_false,zN,zB,or_self,if_false];rfl
  have tail:Fcp (Fao n) c (q,0)=some ((uC c.Kids).foldl nM q):=by
   unfold Fcp;have M: ∀(B:(List Str×Int->Option (List Str))->List Str×Int->Option (List Str)) (_: ∀k (s:List Str) (i:Int),B k (s,i)=gJ (c.Kids.length:Int) λF=>gJ (decide (i<F)) λG=>gQ G (gG (at' c.Kids i) λH=>gG (Fao n s H) λI=>gJ (IntKind.i64.wrap (i+1)) λJ=>k (I,J)) (some s))
     (d i:Nat) (s:List Str) (C:Nat),i+d=c.Kids.length->d<C->s.length+2*cNs (c.Kids.drop i)<=1000000->eQ B C (s,(i:Int))=some ((uC (c.Kids.drop i)).foldl nM s):=by
    intro B Q d
    induction d with
    |zero=>
     intro i s C X Y E;obtain⟨f,rfl⟩: ∃f,C=f+1:=⟨C-1,by omega⟩;obtain rfl:i=c.Kids.length:=by omega
     rw [eQ,Q];simp only [zD,yJ,zN,List.drop_length,uC,List.foldl_nil]
    |succ d ih=>
     intro i s C X Y E;obtain⟨f,rfl⟩: ∃f,C=f+1:=⟨C-1,by omega⟩;have hi:i<c.Kids.length:=by omega
     have R:c.Kids[i]? =some c.Kids[i]:=gE hi;obtain⟨k1,_,_⟩:=sF N R;have K:=List.drop_eq_getElem_cons hi;rw [K,cNs]at E;have hl:=kV c.Kids[i];have hp:=wY (aN c.Kids[i]) s;rw [eQ,Q];simp only [zD];rw [yH hi,zT,yF R,zB,bDa n _ s (by omega) k1 (by omega),zB,fG hi z,ih (i+1) _ f (by omega) (by omega) (by omega),K,uC,List.foldl_append]
   unfold fB;refine(M _ (λ_ _ _=>rfl) c.Kids.length 0 q FU (by omega) (jF z) (by rw [List.drop_zero];omega)).trans ?_;rw [List.drop_zero]
  have e:Fbs (Fao n) l c=gG (gG (gG (gJ (decide (c.Kind=3)) λj=>gG (gQ j (some true) (gJ (decide (c.Kind=4)) λo=>some o)) λp=>gQ p (some true) (gJ (decide (c.Kind=5)) λr=>some r)) λt=>gQ t (gG (Fan l c.Name) λu=>some u) (some l)) λv=>
    gG (gJ (decide (c.Kind=4)) λw=>gQ w (gG (Fan v c.Other) λx=>some x) (some v)) λy=>(some y:Option (List Str))) λy=>gG (Fcp (Fao n) c (y,0)) λL=>some L:=by
   unfold Fbs;generalize (gG (gJ (decide (c.Kind=3)) λj=>gG (gQ j (some true) (gJ (decide (c.Kind=4)) λo=>some o)) λp=>gQ p (some true) (gJ (decide (c.Kind=5)) λr=>some r)) λt=>gQ t (gG (Fan l c.Name) λu=>some u) (some l))=A
   cases A with
   |none=>rfl
   |some a=>
    rw [zB,zB];generalize (gJ (decide (c.Kind=4)) λw=>gQ w (gG (Fan a c.Other) λx=>some x) (some a))=B
    cases B with
    |none=>rfl
    |some _=>rfl
  rw [e,head,zB,tail,zB,<-D,wB,List.foldl_append]
theorem aPn {c:Cond}(g:Gt c)(l:List Str)(a:l.length<=100000):Fck l c=some ((aN c).foldl nM l):=by
 have:=g.d;have:=g.n;unfold Fck;exact bDa FU c l (Nat.le_of_lt (aBh (by omega))) g.ok (by omega)
theorem aZr {r:Rules} (g:Gr' r):Fej r=some ((bI r).foldl nM []):=by
 have hm:=g.m;have v:=g.l;have o: ∃q,Fhn r ([],0)=some q/\q=(r.Moves.flatMap λm=>aN m.When).foldl nM []:=by
  unfold Fhn;refine kZ (λ(i:Nat) (s:List Str)=>(s,(i:Int))) r.Moves (λi s=>s=((r.Moves.take i).flatMap λm=>aN m.When).foldl nM []) (λs=>s=(r.Moves.flatMap λm=>aN m.When).foldl nM []) (by omega) ?_ ?_ [] (by simp)
  ·intro k i s x b hi a;have e:=(g.mg x (qS b)).1;have f:=qO (λm:dC=>aN m.When) 400 (r.Moves.take i) λy c=>by have:=kV y.When;have:=(g.mg y (List.mem_of_mem_take c)).1.n;omega
   have h:(r.Moves.take i).length<=60:=by simp;omega
   have d:=wY ((r.Moves.take i).flatMap λm=>aN m.When) [];simp only [List.length_nil]at d;refine⟨(aN x.When).foldl nM s,by rw [a,take_snoc b];simp,?_⟩;simp only [zD];rw [yH hi,zT,yF b,zB,aPn e s (by rw [a];omega),zB,fG hi (by omega)]
  ·intro k s a;simp only [zD];rw [yJ,zN];exact⟨_,rfl,by rw [a,List.take_length]⟩
 obtain⟨j,f,p⟩:=o;have t: ∃q,Ffo r (j,0)=some q/\q=(bI r).foldl nM []:=by
  unfold Ffo;refine kZ (λ(i:Nat) (s:List Str)=>(s,(i:Int))) r.Rules (λi s=>s=((r.Moves.flatMap λm=>aN m.When)++(r.Rules.take i).flatMap λm=>aN m.When).foldl nM []) (λs=>s=(bI r).foldl nM []) (by omega) ?_ ?_ j (by rw [p];simp)
  ·intro k i s x b hi a;have e:=(g.lg x (qS b)).1;have w:=qO (λm:dC=>aN m.When) 400 r.Moves λy c=>by have:=kV y.When;have:=(g.mg y c).1.n;omega
   have f:=qO (λm:Rule=>aN m.When) 400 (r.Rules.take i) λy c=>by have:=kV y.When;have:=(g.lg y (List.mem_of_mem_take c)).1.n;omega
   have h:(r.Rules.take i).length<=60:=by simp;omega
   have d:=wY ((r.Moves.flatMap λm=>aN m.When)++(r.Rules.take i).flatMap λm=>aN m.When) [];rw [List.length_append]at d;simp only [List.length_nil]at d;refine⟨(aN x.When).foldl nM s,by rw [a,take_snoc b];simp,?_⟩;simp only [zD];rw [yH hi,zT,yF b,zB,aPn e s (by rw [a];omega),zB,fG hi (by omega)]
  ·intro k s a;simp only [zD];rw [yJ,zN];exact⟨_,rfl,by rw [a,List.take_length];rfl⟩
 obtain⟨_,u,h⟩:=t;unfold Fej;rw [f,zB,u,zB,h]
theorem bAn {r:Rules} (h:chk r=some 0): ∀(i:Nat) x,r.Rules[i]? =some x->nmd (r.Rules.take i) x.Name=false/\pX (pRl r i) x.When=false:=by
 unfold chk at h;split at h
 ·exact absurd (oI h) (by decide)
 ·obtain⟨a,_⟩:=jG (phE r.Phases) _ _ _ h;obtain⟨c,_⟩:=jG (λ_=>mvE r) _ _ _ a;obtain⟨_,e⟩:=jG (rlE r) _ _ _ c;intro i x f;have:=e i x f;rw [Nat.zero_add]at this;unfold rlE at this;split at this
  ·split at this
   ·exact absurd this (by decide)
   ·rename_i b;split at this
    ·split at this
     ·exact absurd this (by decide)
     ·rename_i d;exact⟨by simpa using b,by simpa using d⟩
    ·rename_i d;exact absurd this d
  ·exact absurd this (by decide)
def trkN (r:Rules):List Str:=(bI r).foldl nM []
theorem trkN_len {r:Rules}(g:Gr' r):(trkN r).length<=48000:=by
 have:=wY (bI r) [];have:=aPs g;simp only [List.length_nil]at *
 unfold trkN;omega
def aLa (c:Cond):Prop:=okC c
theorem okCond_mk {a0:Int}{b a2:Str}{a3 a4 a5:Int}{a:List Cond}(d:i64 a0)(e:okS b)(f:okS a2)(h:i64 a3)(i:i64 a4)(j:i64 a5)(c:a.length<=9223372036854775807/\ ∀x∈a,aLa x):aLa ⟨a0,b,a2,a3,a4,a5,a⟩:=
 (jO _).2 ⟨⟨d,e,f,h,i,j⟩,c.1,(wX _).2 c.2⟩
def aTg (x:dC):Prop:=okS x.From/\okS x.To/\aLa x.When
def bAa (x:Rule):Prop:=okS x.Name/\aLa x.When
def bCe (x:Rules):Prop:=okL (λx=>okS x) x.Phases/\okL (λx=>aTg x) x.Moves/\okL (λx=>bAa x) x.Rules
end Go.Lf
