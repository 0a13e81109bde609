/- Laws that the claim stands on; no condition beyond those stated. -/
import Derived.Test.YtibkjjklfhfipadGreatDoorDNa
namespace Go.Lf
open Go.RowKit Go.OB
section
variable {β:Type}
theorem bCn {body:(Int×Int->Option β)->Int×Int->Option β} (K n:Nat) (r:Option β)
  (p: ∀k (lo hi:Nat),lo<hi->hi<=n->lo<=K->K<=hi->body k ((lo:Int),(hi:Int))=if (lo+hi)/2<K then k (((lo+hi)/2+1:Nat),(hi:Int))else k ((lo:Int),((lo+hi)/2:Nat)))
  (j: ∀k,body k ((K:Int),(K:Int))=r): ∀(m lo hi a:Nat),hi-lo<=m->lo<=K->K<=hi->hi<=n->m<a->dL body a ((lo:Int),(hi:Int))=r:=by
 intro m
 induction m with
 |zero=>
  intro lo hi a q b c d s;obtain⟨f,rfl⟩: ∃f,a=f+1:=⟨a-1,by omega⟩;have e:lo=K:=by omega
  have i:hi=K:=by omega
  subst e;subst i;exact j _
 |succ m l=>
  intro lo hi a q b c d s;obtain⟨f,rfl⟩: ∃f,a=f+1:=⟨a-1,by omega⟩
  by_cases h:lo<hi
  ·show body (dL body f) _=r;rw [p _ lo hi h d b c]
   by_cases o:(lo+hi)/2<K
   ·rw [if_pos o];exact l _ _ f (by omega) (by omega) c d (by omega)
   ·rw [if_neg o];exact l _ _ f (by omega) b (by omega) (by omega) (by omega)
  ·have e:lo=K:=by omega
   have i:hi=K:=by omega
   subst e;subst i;exact j _
end
def cntP {a:Type}(p:a->Bool)(l:List a):Nat:=(l.takeWhile p).length
theorem aBh {a:Type}(p:a->Bool): ∀l:List a,cntP p l<=l.length
 | []=>Nat.le_refl _
 |x::l=>by
  unfold cntP;rw [List.takeWhile_cons]
  cases p x
  ·exact Nat.zero_le _
  ·exact Nat.succ_le_succ (aBh p l)
theorem aRq {c:Type} (p:c->Bool): ∀(l:List c) (_: ∀(i j:Nat) x y,l[i]? =some x->l[j]? =some y->i<j->p y=true->p x=true) (i:Nat) (x:c),l[i]? =some x->(p x=true↔i<cntP p l)
 | [],_,i,x,b=>by simp at b
 |a::l,hm,i,x,b=>by
  have d:=aRq p l (λi j x y e f _ k=>hm (i+1) (j+1) x y (by simpa using e) (by simpa using f) (by omega) k);unfold cntP;rw [List.takeWhile_cons]
  cases hp:p a with
  |false=>
   constructor
   ·intro h
    cases i with
    |zero=>simp at b;subst b;rw [hp]at h;cases h
    |succ i=>have:=hm 0 (i+1) a x rfl b (by omega) h;rw [hp]at this;cases this
   ·intro h;simp at h
  |true=>
   cases i with
   |zero=>simp at b;subst b;simp [hp]
   |succ i=>
    rw [if_pos rfl,List.length_cons,Nat.add_lt_add_iff_right];exact d i x (by simpa using b)
def Asc (l:List eP):Prop:= ∀(i j:Nat) x y,l[i]? =some x->l[j]? =some y->i<j->x.At<y.At
theorem asc_of {s:Series} (h:aEq s=0):Asc s.Samples/\s.Samples.length<=20000/\ ∀(i:Nat) (x:eP),s.Samples[i]? =some x->0<=x.At/\x.At<=1099511627776:=by
 obtain⟨-,n,f⟩:=(bBj s).1 h;have step: ∀i x y,s.Samples[i]? =some x->s.Samples[i+1]? =some y->x.At<y.At:=by
  intro i x y a b;have q:=f (i+1) y b;unfold aQw at q;split at q
  ·exact absurd q (by decide)
  ·split at q
   ·exact absurd q (by decide)
   ·simp only [a]at q
    by_cases c:y.At<=x.At
    ·simp [c]at q
    ·omega
 refine⟨?_,n,λi x a=>?_⟩
 ·intro i j x y a b e;obtain⟨d,rfl⟩: ∃d,j=i+1+d:=⟨j-(i+1),by omega⟩;clear e
  induction d generalizing y with
  |zero=>exact step i x y a b
  |succ d o=>
   have p:=(gS.1 b).1;obtain⟨z,k⟩: ∃z,s.Samples[i+1+d]? =some z:=⟨_,gE (by omega)⟩;have:=o z k;have:=step (i+1+d) z y k b;omega
 ·have q:=f i x a;unfold aQw at q;split at q
  ·exact absurd q (by decide)
  ·rename_i c;simp only [Bool.or_eq_true,Bool.not_eq_true',Bool.and_eq_false_iff,decide_eq_false_iff_not,not_or,Decidable.not_not]at c
   by_cases l:0<=x.At
   ·by_cases c2:x.At<=1099511627776
    ·exact⟨l,c2⟩
    ·simp [c2]at c
   ·simp [l]at c
def kLt (l:List eP)(t:Int):Nat:=cntP (λx=>decide (x.At<t)) l
def kLe (l:List eP)(t:Int):Nat:=cntP (λx=>decide (x.At<=t)) l
theorem aIw {l:List eP}(a:Asc l)(t:Int){i:Nat}{x:eP}(b:l[i]? =some x):x.At<t↔i<kLt l t:=by
 have:=aRq (λx:eP=>decide (x.At<t)) l (λi j x y c d e _=>by have:=a i j x y c d e;simp only [decide_eq_true_eq]at *;omega) i x b;unfold kLt;simpa using this
theorem aGf {l:List eP}(a:Asc l)(t:Int){i:Nat}{x:eP}(b:l[i]? =some x):x.At<=t↔i<kLe l t:=by
 have:=aRq (λx:eP=>decide (x.At<=t)) l (λi j x y c d e _=>by have:=a i j x y c d e;simp only [decide_eq_true_eq]at *;omega) i x b;unfold kLe;simpa using this
theorem mid_ok {l:List eP}{lo hi:Nat}(h:lo<hi)(hh:hi<=l.length): ∃x,l[(lo+hi)/2]? =some x:=⟨_,gE (by omega)⟩
theorem bsearch_eq (l:List eP) (t:Int) (b:Asc l) (v:l.length<=20000) (d: ∀(i:Nat) (x:eP),l[i]? =some x->0<=x.At/\x.At<=1099511627776) (w:0<=t/\t<=1099511627776):
  Fhw l t (0,(l.length:Int))=some (kLt l t:Int):=by
 unfold Fhw fF;refine bCn (kLt l t) l.length _ ?_ ?_ l.length 0 l.length FU (by omega) (Nat.zero_le _) (aBh _ _) (Nat.le_refl _) (nH (by omega))
 ·intro k lo hi e f _ _;obtain⟨x,a⟩:=mid_ok e f;have j:IntKind.i64.wrap ((lo:Int)+(hi:Int))=((lo+hi:Nat):Int):=by rw [Go.OB.wrap_i64 (by omega) (by omega)];omega
  have o:IntKind.u64.wrap ((lo+hi:Nat):Int)=((lo+hi:Nat):Int):=by rw [IntKind.wrap_u64];omega
  have p:aEa .u64 ((lo+hi:Nat):Int) 1=some (((lo+hi)/2:Nat):Int):=by
   unfold aEa;rw [if_pos (by decide)]
   congr 1
  have r:IntKind.i64.wrap (((lo+hi)/2:Nat):Int)=(((lo+hi)/2:Nat):Int):=by rw [Go.OB.wrap_i64 (by omega) (by omega)]
  have s:IntKind.i64.wrap ((((lo+hi)/2:Nat):Int)+1)=(((lo+hi)/2+1:Nat):Int):=fO (n:=20000) (by omega) (by omega);have A:=d _ _ a;have u:Fbd x t=some (x.At-t):=by
   unfold Fbd;rw [zH,Go.OB.wrap_i64 (by omega) (by omega)]
  simp only [zH,dT (show(lo:Int)<(hi:Int)by omega),zS,j,o,p,zC,r,rE,a,u,s,xG];have q:=aIw b t a
  by_cases c:(lo+hi)/2<kLt l t
  ·rw [if_pos c,if_pos (by have:=q.2 c;omega)]
  ·rw [if_neg c,if_neg (by intro _;exact c (q.1 (by omega)))]
 ·intro k;simp only [zH,qD (show¬((kLt l t:Int)<(kLt l t:Int))by omega),zK]
theorem latest_eq (s:Series) (t:Int) (b:Asc s.Samples) (w:s.Samples.length<=20000) (q: ∀(i:Nat) (x:eP),s.Samples[i]? =some x->0<=x.At/\x.At<=1099511627776) (z:0<=t/\t<=1099511627776):
  Few s t=some ((kLe s.Samples t:Int)-1):=by
 unfold Few Fhj;simp only [zH,bsearch_eq s.Samples t b w q z,zC];have l:=aBh (λx:eP=>decide (x.At<t)) s.Samples;have o:=aBh (λx:eP=>decide (x.At<=t)) s.Samples;change kLt s.Samples t<=_ at l;change kLe s.Samples t<=_ at o;have r: ∀n:Nat,n<=20000->IntKind.i64.wrap ((n:Int)-1)=(n:Int)-1:=λn _=>Go.OB.wrap_i64 (by omega) (by omega)
 by_cases c:kLt s.Samples t<s.Samples.length
 ·obtain⟨x,d⟩: ∃x,s.Samples[kLt s.Samples t]? =some x:=⟨_,gE c⟩;have E:=q _ _ d;have u:=aIw b t d;have v:=aGf b t d;have A:Fbd x t=some (x.At-t):=by
   unfold Fbd;rw [zH,Go.OB.wrap_i64 (by omega) (by omega)]
  simp only [dT (show(kLt s.Samples t:Int)<(s.Samples.length:Int)by omega),zS,rE,d,zC,A];have p: ∀j y,s.Samples[j]? =some y->kLt s.Samples t<j-> ¬y.At<=t:=by
   intro j y a B h;have:=b _ _ _ _ d a B;have:=u;omega
  by_cases e:x.At-t=0
  ·have f:kLe s.Samples t=kLt s.Samples t+1:=by
    have C:=v.1 (by omega)
    by_cases k:kLt s.Samples t+1<kLe s.Samples t
    ·obtain⟨y,a⟩: ∃y,s.Samples[kLt s.Samples t+1]? =some y:=⟨_,gE (by omega)⟩;exact absurd ((aGf b t a).2 k) (p _ _ a (by omega))
    ·omega
   simp only [dT e,zS];rw [f];congr 1;omega
  ·have f:kLe s.Samples t=kLt s.Samples t:=by
    have C: ¬kLt s.Samples t<kLe s.Samples t:=λh=>by have:=v.2 h;have: ¬x.At<t:=(λh=>by have:=u.1 h;omega);omega
    by_cases k:kLe s.Samples t<kLt s.Samples t
    ·obtain⟨y,a⟩: ∃y,s.Samples[kLe s.Samples t]? =some y:=⟨_,gE (by omega)⟩;have:=(aIw b t a).2 k;have:=(aGf b t a).1 (by omega);omega
    ·omega
   simp only [qD e,zK];rw [f,r _ (by omega)]
 ·simp only [qD (show¬(kLt s.Samples t:Int)<(s.Samples.length:Int)by omega),zK,zC];have f:kLe s.Samples t=kLt s.Samples t:=by
   by_cases k:kLe s.Samples t<kLt s.Samples t
   ·obtain⟨y,a⟩: ∃y,s.Samples[kLe s.Samples t]? =some y:=⟨_,gE (by omega)⟩;have:=(aIw b t a).2 k;have:=(aGf b t a).1 (by omega);omega
   ·omega
  rw [f,r _ (by omega)]
def hld (s:Series)(t g:Int):eP×Bool:=
 match kLe s.Samples t with
 |0=>(eP.mk 0 0 0,false)
 |n+1=>match s.Samples[n]? with
  |some x=>if (!decide (3<=x.Mark))||decide (g<IntKind.i64.wrap (t-x.At))then(eP.mk 0 0 0,false)else(x,true)
  |none=>(eP.mk 0 0 0,false)
theorem Held_eq (s:Series)(t g:Int)(c:Asc s.Samples)(d:s.Samples.length<=20000)(f: ∀(i:Nat) (x:eP),s.Samples[i]? =some x->0<=x.At/\x.At<=1099511627776)(h:0<=t/\t<=1099511627776):
  Fd8 s t g=some (hld s t g):=by
 unfold Fd8 Fgq hld;have j:=aBh (λx:eP=>decide (x.At<=t)) s.Samples;change kLe s.Samples t<=_ at j;rw [latest_eq s t c d f h];generalize kLe s.Samples t=n at *
 cases n with
 |zero=>rfl
 |succ n=>
  obtain⟨x,k⟩: ∃x,s.Samples[n]? =some x:=⟨_,gE (by omega)⟩;have e:(((n+1:Nat):Int)-1)=(n:Int):=by omega
  simp only [zC,zH,e,qD (show¬((n:Int)<0)by omega),zK,rE,k,Fhb];generalize decide (3<=x.Mark)=a;generalize decide (g<IntKind.i64.wrap (t-x.At))=b
  cases a<;>cases b<;>rfl
def inT (n:Int)(t:Track):gY:=gY.mk (hld t.Series (64*n+63) t.Long).1.N (hld t.Series (64*n+63) t.Long).2
theorem apT (p:List gY)(x:gY)(h:p.length<=100000):app' 16 p [x]=some (p++[x]):=by
 unfold app';rw [if_pos ⟨by rw [Go.OB.maxLen_eq];simp;omega,by simp;omega⟩]
theorem bDc {n:Int}(a:0<=n)(b:n<=4194303):IntKind.i64.wrap (IntKind.i64.wrap (IntKind.i64.wrap (64*n)+64)-1)=64*n+63:=by
 rw [Go.OB.wrap_i64 (n:=64*n) (by omega) (by omega),Go.OB.wrap_i64 (n:=64*n+64) (by omega) (by omega),Go.OB.wrap_i64 (by omega) (by omega)];omega
structure TK (l:List Track):Prop where
 n:l.length<=100000
 d: ∀(i j:Nat) (x y:Track),l[i]? =some x->l[j]? =some y->i<j->x.Name≠y.Name
 s: ∀(i:Nat) (x:Track),l[i]? =some x->aEq x.Series=0
theorem tk_of {l:List Track}(h:aMk l=0):TK l:=⟨by have:=((aJx l).1 h).1;omega,λi _ x _ a c b=>names_ne h a c b,λi x a=>((aLb l i x).1 (((aJx l).1 h).2 i x a)).2.2.1⟩
theorem aKe {l:List Track}(h:TK l):l.length<=100000/\ ∀(i:Nat) (x:Track),l[i]? =some x->Asc x.Series.Samples/\x.Series.Samples.length<=20000/\ ∀(j:Nat) (y:eP),x.Series.Samples[j]? =some y->0<=y.At/\y.At<=1099511627776:=⟨h.n,λi x a=>asc_of (h.s i x a)⟩
theorem mO {a:Type}{l:List a}{i:Nat}{x:a}(b:l[i]? =some x):l.take (i+1)=l.take i++[x]:=by
 rw [List.take_add_one,b];rfl
theorem aOs (l:List Track) (n:Int) (h:TK l) (b:0<=n) (c:n<=4194303):Fea l n=some (l.map (inT n)):=by
 obtain⟨_,d⟩:=aKe h;unfold Fea Fi1;simp only [zH];rw [show(([]:List gY),(0:Int))=(λ(i:Nat)=>((l.take i).map (inT n),(i:Int))) 0 by simp];rw [xO (λ(i:Nat)=>((l.take i).map (inT n),(i:Int))) l (some (l.map (inT n))) (by omega) ?_ ?_];rfl;intro k i x a hi;obtain⟨g1,g2,g3⟩:=d i x a;simp only [bDc b c];rw [yP hi,zS,yQ a,zC,Held_eq _ _ _ g1 g2 g3 (by omega),zC];rw [apT _ _ (by simp;omega),zC,fO hi (by omega),mO a,List.map_append];rfl;intro k;rw [yR,zK,List.take_length]
end Go.Lf
