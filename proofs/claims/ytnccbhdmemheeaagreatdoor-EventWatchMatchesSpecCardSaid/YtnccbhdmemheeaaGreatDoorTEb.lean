/- Laws that the claim stands on; no condition beyond those stated. -/
import Derived.Test.YtnccbhdmemheeaaGreatDoorTEa
namespace Go.Lf
open Go.OB
theorem aQl (s:Str): ∀(l:List Str) (i:Nat),s∈l->dR (λi x=>if decide (x=s)=true then some (some (i:Int))else none) (some (-1)) l i=some (pY (nO l i) s 0)
 | [],_,h=>by simp at h
 |x::l,i,h=>by
  rw [dR,nO,aDi]
  by_cases c:x=s
  ·rw [if_pos c];simp [c]
  ·rw [if_neg c,<-aQl s l (i+1) ((List.mem_cons.1 h).resolve_left (Ne.symm c))];simp [c]
theorem aOh (l:List Str) (s:Str) (a:l.length<=9223372036854775807) (h:s∈l):Fac l s=some (pY (nO l 0) s 0):=by
 rw [<-aQl s l 0 h];unfold Fac;simp only [xB];unfold Fg0;refine yY l _ _ a ?_ ?_;intro k _ x b hi;simp only [zI];rw [yM hi,zU,yR b,zC,fQ hi a];cases decide (x=s)<;>rfl;intro k;simp only [zI];rw [yN];rfl
theorem idx_zip (l:List Str) (s:Str) (a:l.length<=9223372036854775807) (h:s∈l):aBx l s=pY (nO l 0) s 0:=by
 have e:Fai l s=some (pY (nO l 0) s 0):=by
  rw [<-aQl s l 0 h];unfold Fai;simp only [zI,xB];unfold Fei;refine yY l _ _ a ?_ ?_
  ·intro b _ x c hi;simp only [zI];rw [yM hi,zU,yR c,zC,fQ hi a,decide_eq_decide.2 (eq_comm:s=x↔x=s)]
   cases decide (x=s)<;>rfl
  ·intro b;simp only [zI];rw [yN];rfl
 unfold aBx;rw [e];rfl
theorem fo_map {a:Type}(g:a->Str)(s:Str): ∀(l:List a) (i:Nat),dR (λi x=>if decide (g x=s)=true then some (some (i:Int))else none) (some (-1)) l i=dR (λi x=>if decide (x=s)=true then some (some (i:Int))else none) (some (-1)) (l.map g) i
 | [],_=>rfl
 |x::l,i=>by
  rw [List.map_cons,dR,dR,fo_map g s l (i+1)]
def ruI (r:Rules)(s:Str):Int:=pY (nO (r.Rules.map dA.Name) 0) s 0
theorem aYh (r:Rules) (s:Str) (a:r.Rules.length<=9223372036854775807) (h:s∈r.Rules.map dA.Name):Fal r s=some (ruI r s):=by
 unfold ruI;rw [<-aQl s _ 0 h,<-fo_map];unfold Fal;simp only [xB];unfold Fhp;refine yY r.Rules _ _ a ?_ ?_;intro k _ x b hi;simp only [zI];rw [yM hi,zU,yR b,zC,fQ hi a];cases decide (x.Name=s)<;>rfl;intro k;simp only [zI];rw [yN];rfl
theorem aVa (s:Str): ∀(l:List Str) (i k:Nat),s∈l.take k->pY (nO (l.take k) i) s 0=pY (nO l i) s 0
 | [],i,k,h=>by simp at h
 |x::l,i,0,h=>by simp at h
 |x::l,i,k+1,h=>by
  rw [List.take_succ_cons,nO,nO,aDi,aDi]
  by_cases c:x=s
  ·rw [if_pos c,if_pos c]
  ·rw [if_neg c,if_neg c];exact aVa s l (i+1) k ((List.mem_cons.1 h).resolve_left (Ne.symm c))
theorem ru_at {r:Rules}{l:List fF}{i:Nat}{s:Str}(h:s∈(r.Rules.take i).map dA.Name): ∃(j:Nat) (x:dA),ruI r s=(j:Int)/\(MkR r l i).rl s=(j:Int)/\j<i/\r.Rules[j]? =some x/\x.Name=s:=by
 obtain⟨j,a,c⟩:=aCa s _ 0 h;have e:(r.Rules.map dA.Name).take i=(r.Rules.take i).map dA.Name:=by rw [List.map_take]
 have d:ruI r s=pY (nO ((r.Rules.take i).map dA.Name) 0) s 0:=by
  unfold ruI;rw [<-e];exact(aVa s _ 0 i (by rw [e];exact h)).symm
 rw [Nat.zero_add]at a;rw [List.getElem?_map,Option.map_eq_some_iff]at c;obtain⟨x,b,k⟩:=c;have n:=(gS.1 b).1;rw [List.length_take]at n;refine⟨j,x,by rw [d];exact a,a,by omega,?_,k⟩;rw [List.getElem?_take_of_lt (by omega)]at b;exact b
theorem aVr {c:Cond}(g:Gt c):aOw c:=by
 have gk:=g.gk;have a:=g.self;refine⟨a.k1,λh=>List.eq_nil_of_length_eq_zero (gk.z h),λh=>jD (gk.o h),λh=>aFv (gk.t h),λh=>⟨gk.g h,g.kids⟩,λh=>⟨gk.fr h,a.fr.2⟩,a.n,gk.st⟩
theorem ph_at {r:Rules} (n:r.Phases.length<=20) (d: ∀(i:Nat) x,r.Phases[i]? =some x->x∉r.Phases.take i) {s:Str} (h:s∈r.Phases):Fac r.Phases s=some (aBx r.Phases s)/\(0<=aBx r.Phases s/\aBx r.Phases s<r.Phases.length)/\ ∀(i:Nat) u,r.Phases[i]? =some u->(s=u↔aBx r.Phases s=(i:Int)):=by
 rw [idx_zip _ _ (by omega) h];refine⟨aOh _ _ (by omega) h,?_⟩;obtain⟨j,k,a⟩:=aCa s _ 0 h;rw [Nat.zero_add]at k;rw [k];have o:=(gS.1 a).1;refine⟨⟨by omega,by omega⟩,λi u b=>⟨λe=>?_,λe=>?_⟩⟩
 ·subst e;rcases Nat.lt_trichotomy j i with c|c|c
  ·exfalso;refine d i s b ?_;exact qS (i:=j) (by rw [List.getElem?_take_of_lt c];exact a)
  ·rw [c]
  ·exfalso;refine d j s a ?_;exact qS (i:=i) (by rw [List.getElem?_take_of_lt c];exact b)
 ·have:j=i:=by omega
  subst this;rw [a]at b;exact oI b
def mvC (r:Rules):List Cond:=r.Moves.map dI.When
def rlC (r:Rules):List Cond:=r.Rules.map dA.When
def rlP (r:Rules)(s:Str):Int:=(at' (kJ (cNs (mvC r)) (rlC r)) (ruI r s)).getD 0
def ev0 (r:Rules)(l:List fF):gG:=
 gG.mk r (l.map fF.Name) (rD l) [] 0 ((List.replicate r.Phases.length false).set 0 true)
  ((bW 0 (mvC r)++bW (cNs (mvC r)) (rlC r)).map (aZ (rlP r))) ((cNs (mvC r):Nat):Int) (kJ 0 (mvC r)) (kJ (cNs (mvC r)) (rlC r))
theorem aYo {n:Nat}: ∀l:List Cond,(∀x∈l,cN x<=n)->cNs l<=n*l.length
 | [],_=>by rw [cNs];exact Nat.zero_le _
 |x::l,h=>by
  have b:=h x List.mem_cons_self;have c:=aYo l λy a=>h y (List.mem_cons_of_mem _ a)
  rw [cNs,List.length_cons,Nat.mul_add];omega
theorem begin_eq (r:Rules)(b:r.Phases.length<=20):Fd4 r=some ((List.replicate r.Phases.length false).set 0 true):=by
 unfold Fd4;have mk:make' 1 (r.Phases.length:Int) (false:Bool)=some (List.replicate r.Phases.length false):=by
  unfold make';rw [if_pos ⟨by omega,by omega,by omega⟩,Int.toNat_natCast]
 simp only [zI];rw [mk,zC,List.length_replicate]
 cases h:r.Phases.length with
 |zero=>rfl
 |succ n=>
  rw [dT (by omega:(0:Int)<((n+1:Nat):Int)),zU];have a:at' (List.replicate (n+1) false) 0=some false:=by
   have:=yR (l:=List.replicate (n+1) false) (i:=0) (x:=false) (by simp [List.replicate_succ]);exact this
  have s:set' (List.replicate (n+1) false) 0 true=some ((List.replicate (n+1) false).set 0 true):=by
   unfold set';rw [if_pos ⟨by omega,by rw [List.length_replicate];omega⟩];rfl
  rw [a,zC,s];rfl
def pM (r:Rules)(c:Cond):Prop:=Gt c/\qP pMv c=false/\ ∀s∈kH c,s∈nK r
def pR (r:Rules)(i:Nat)(c:Cond):Prop:=Gt c/\qP (pRl r i) c=false/\ ∀s∈kH c,s∈nK r
theorem aWl {r:Rules}(c x:Cond)(h:pM r c)(a:x∈c.Kids):pM r x:=⟨h.1.kid a,aQy a h.2.1,λs b=>h.2.2 s (aJm a b)⟩
theorem aYm {r:Rules}{i:Nat}(c x:Cond)(h:pR r i c)(a:x∈c.Kids):pR r i x:=⟨h.1.kid a,aQy a h.2.1,λs b=>h.2.2 s (aJm a b)⟩
theorem pM_of {r:Rules}{l:List fF}(h:GB r l){m:dI}(hm:m∈r.Moves):pM r m.When:=⟨(h.g.mg m hm).1,(mv_ok h.c hm).2.2,λ_ a=>nm_mv hm a⟩
theorem pR_of {r:Rules}{l:List fF}(h:GB r l){i:Nat}{x:dA}(a:r.Rules[i]? =some x):pR r i x.When:=⟨(h.g.lg x (qS a)).1,(aXn h.c i x a).2,λ_ b=>nm_rl (qS a) b⟩
theorem pMv_no {c:Cond}(h:qP pMv c=false):c.Kind≠6/\c.Kind≠7:=by
 have q:=aGr h;unfold pMv at q;constructor<;>(intro e;rw [e]at q;simp at q)
theorem dN_20 {c:Cond}(g:Gt c):dN c<=1000000:=by have:=g.d;omega
theorem mv_cN {r:Rules}{l:List fF}(h:GB r l):cNs (mvC r)<=12000:=by
 have q:=aYo (n:=200) (mvC r) (λ_ a=>by obtain⟨m,hm,rfl⟩:=List.mem_map.1 a;exact(h.g.mg m hm).1.n);have:=h.g.m;unfold mvC at q⊢;rw [List.length_map]at q;omega
theorem rl_cN {r:Rules}{l:List fF}(h:GB r l):cNs (rlC r)<=12000:=by
 have q:=aYo (n:=200) (rlC r) (λ_ a=>by obtain⟨m,hm,rfl⟩:=List.mem_map.1 a;exact(h.g.lg m hm).1.n);have:=h.g.l;unfold rlC at q⊢;rw [List.length_map]at q;omega
theorem rlP_at {r:Rules}{i:Nat}{s:Str}{l:List fF} (h:s∈(r.Rules.take i).map dA.Name): ∃(j:Nat) (x:dA) (k:Int),ruI r s=(j:Int)/\(MkR r l i).rl s=(j:Int)/\j<i/\r.Rules[j]? =some x/\(kJ (cNs (mvC r)) (rlC r))[j]? =some k/\rlP r s=k/\at' (kJ (cNs (mvC r)) ((r.Rules.take i).map dA.When)) (j:Int)=some k:=by
 obtain⟨j,x,b,d,n,c,-⟩:=ru_at (l:=l) h;have o:=(gS.1 c).1;have p:j<(kJ (cNs (mvC r)) (rlC r)).length:=by rw [aAc];unfold rlC;rw [List.length_map];exact o
 have a:(kJ (cNs (mvC r)) (rlC r))[j]? =some (kJ (cNs (mvC r)) (rlC r))[j]:=gE p;refine⟨j,x,_,b,d,n,c,a,?_,?_⟩;unfold rlP;rw [b,wX,a];rfl;rw [wX,<-a];have e:rlC r=(r.Rules.take i).map dA.When++(r.Rules.drop i).map dA.When:=by rw [<-List.map_append,List.take_append_drop];rfl
 rw [e,aKf,List.getElem?_append_left];rw [aAc,List.length_map,List.length_take];omega
theorem empty_eq {r:Rules}{l:List fF}(h:GB r l):Fea r l=some (ev0 r l):=by
 have g:=h.g;have A:=empty1 l (by have:=h.t.n;omega);have B:=begin_eq r g.p;have nm:=mv_cN h;have I:=rl_cN h;have C:=empty2 (r:=r) (ph:=(List.replicate r.Phases.length false).set 0 true) (nm:=l.map fF.Name) (ds:=l.map λt=>t.Series.Den) (rl:=rlP r) (pM r) aWl
  (λv c a=>⟨⟨a.1.self.fr.1,a.1.self.fr.2⟩,a.1.kids,λb=>absurd b (pMv_no a.2.1).2⟩) (λm hm=>pM_of h hm) (by have:=g.m;omega) (λm hm=>dN_20 (g.mg m hm).1) (by show cNs (mvC r)<=_;omega)
 have ll:((bW 0 (mvC r)).map (aZ (rlP r))).length=cNs (mvC r):=by rw [List.length_map,nC]
 have u:=empty3 (r:=r) (ph:=(List.replicate r.Phases.length false).set 0 true) (nm:=l.map fF.Name) (ds:=l.map λt=>t.Series.Den) (rl:=rlP r) (ns:=(bW 0 (mvC r)).map (aZ (rlP r))) (mv:=kJ 0 (mvC r)) (f0:=((cNs (mvC r):Nat):Int))
  (λi x d=>⟨pR r i,aYm,pR_of h d,λv c D e a=>⟨⟨a.1.self.fr.1,a.1.self.fr.2⟩,a.1.kids,λb=>by
   have w:=(aGs i (aGr a.2.1)).2 b;obtain⟨_,_,_,E,a2,a3,a4,a5,F,G⟩:=rlP_at (l:=l) w;refine⟨ruI r c.Name,by rw [D];exact aYh r _ (by have:=g.l;omega) (by obtain⟨z,H,o⟩:=List.mem_map.1 w;exact List.mem_map.2 ⟨z,List.mem_of_mem_take H,o⟩),?_⟩;rw [e,ll,E,F];exact G⟩⟩) (by have:=g.l;omega) (λx d=>dN_20 (g.lg x d).1) (by rw [ll];show cNs (mvC r)+cNs (rlC r)<=_;omega)
 unfold Fea;rw [B,zC,A,zC];dsimp only;rw [C,zC];simp only [zI];have q:((bW 0 (r.Moves.map dI.When)).map (aZ (rlP r))).length=cNs (mvC r):=ll;rw [ll]at u;rw [q];have s:Fee r ((List.replicate r.Phases.length false).set 0 true) (l.map fF.Name) (l.map λt=>t.Series.Den) (kJ 0 (r.Moves.map dI.When)) ((cNs (mvC r):Nat):Int) (0,(bW 0 (r.Moves.map dI.When)).map (aZ (rlP r)),[])=_:=u;rw [s,zC];refine congrArg some ?_;unfold ev0;rw [List.map_append];rfl
def itm (M:Mk)(rl:Str->Int)(x:It):Itm:=⟨x.c,x.ks,M,if x.c.Kind=7 then rl x.c.Name else 0⟩
def aXk (b:Nat)(L:List Itm):Prop:= ∀(g:Nat) (it:Itm),L[g]? =some it->it.ks.length=it.c.Kids.length/\aOw it.c/\ ∀(j:Nat) (k:Int),it.ks[j]? =some k-> ∃(a:Nat) (y:Itm),k=((b+a:Nat):Int)/\a<g/\L[a]? =some y/\it.c.Kids[j]? =some y.c/\y.M=it.M
theorem aXk.app {b:Nat}{a s:List Itm} (w:aXk b a) (z:aXk (b+a.length) s):aXk b (a++s):=by
 intro g x d;by_cases c:g<a.length;rw [List.getElem?_append_left c]at d;obtain⟨e,a0,a2⟩:=w g x d;refine⟨e,a0,λj k h=>?_⟩;obtain⟨i,y,n,u,o,p,q⟩:=a2 j k h;exact⟨i,y,n,u,by rw [List.getElem?_append_left (by omega)];exact o,p,q⟩;rw [List.getElem?_append_right (by omega)]at d;obtain⟨e,a0,a2⟩:=z _ x d;refine⟨e,a0,λj k h=>?_⟩;obtain⟨i,y,n,u,o,p,q⟩:=a2 j k h;exact⟨a.length+i,y,by rw [n];congr 1;omega,by omega,by rw [List.getElem?_append_right (by omega),Nat.add_sub_cancel_left];exact o,p,q⟩
theorem aUh {b:Nat}{L:List It}{M:Mk}{rl:Str->Int}(h:aIn b L)(e: ∀x∈L,aOw x.c):aXk b (L.map (itm M rl)):=by
 intro g _ a;rw [List.getElem?_map,Option.map_eq_some_iff]at a;obtain⟨x,d,rfl⟩:=a;obtain⟨i,a2⟩:=h g x d;refine⟨i,e x (qS d),λj k n=>?_⟩;obtain⟨o,y,p,q,s,u⟩:=a2 j k n;exact⟨o,itm M rl y,p,q,by rw [List.getElem?_map,s];rfl,u,rfl⟩
theorem aNd {p:Cond->Prop}(d: ∀c x:Cond,p c->x∈c.Kids->p x): ∀(cs:List Cond) (b:Nat),(∀c∈cs,p c)-> ∀x∈bW b cs,p x.c
 | [],b,_,x,a=>by rw [bW]at a;simp at a
 |c::cs,b,e,x,a=>by
  rw [bW]at a;rcases mA.1 a with h|h
  ·exact aFn d b c (e c List.mem_cons_self) x h
  ·exact aNd d cs _ (λy i=>e y (List.mem_cons_of_mem _ i)) x h
def aCs (r:Rules)(l:List fF):Nat->Nat->List dA->List Itm
 |_,_,[]=>[]
 |i,b,x::xs=>(kG b x.When).map (itm (MkR r l i) (rlP r))++aCs r l (i+1) (b+(kG b x.When).length) xs
def uJ (r:Rules)(l:List fF):List Itm:=(bW 0 (mvC r)).map (itm (MkR r l 0) (rlP r))++aCs r l 0 (cNs (mvC r)) r.Rules
section
variable {r:Rules}{l:List fF}
theorem itmL_B: ∀(xs:List dA) (i b:Nat),(∀(k:Nat) x,xs[k]? =some x->pR r (i+k) x.When)->aXk b (aCs r l i b xs)
 | [],i,b,_=>λg it h=>by rw [aCs]at h;simp at h
 |x::xs,i,b,h=>by
  rw [aCs];have c:=h 0 x rfl;refine(aUh (aRl b x.When) (λy a=>aVr (aFn aYm b x.When c y a).1)).app ?_;rw [List.length_map];exact itmL_B xs (i+1) _ λk y a=>by rw [show i+1+k=i+(k+1)by omega];exact h (k+1) y (by simpa using a)
theorem bBw: ∀(xs:List dA) (i b:Nat),(aCs r l i b xs).map (λy=>(⟨y.c,y.ks⟩:It))=bW b (xs.map dA.When)
 | [],_,_=>rfl
 |x::xs,i,b=>by
  rw [aCs,List.map_append,bBw xs,List.map_cons,bW,List.map_map]
  congr 1
  exact List.map_id _
theorem bAs: ∀(xs:List dA) (i b:Nat),∀y∈aCs r l i b xs,y.rule=if y.c.Kind=7 then rlP r y.c.Name else 0
 | [],_,_,y,h=>by rw [aCs]at h;simp at h
 |x::xs,i,b,y,h=>by
  rw [aCs]at h;rcases mA.1 h with h|h
  ·obtain⟨z,a,rfl⟩:=List.mem_map.1 h;rfl
  ·exact bAs xs _ _ y h
theorem bBd: ∀y∈uJ r l,y.rule=if y.c.Kind=7 then rlP r y.c.Name else 0:=λy h=>by
 unfold uJ at h;rcases mA.1 h with h|h
 ·obtain⟨_,_,rfl⟩:=List.mem_map.1 h;rfl
 ·exact bAs _ _ _ y h
theorem aRn:(uJ r l).map (λy=>(⟨y.c,y.ks⟩:It))=bW 0 (mvC r)++bW (cNs (mvC r)) (rlC r):=by
 unfold uJ;rw [List.map_append,bBw,List.map_map];congr 1;exact List.map_id _
theorem aTu:(uJ r l).length=cNs (mvC r)+cNs (rlC r):=by
 have h:=congrArg List.length (aRn (r:=r) (l:=l));rw [List.length_map,List.length_append,nC,nC]at h;exact h
theorem bBb (h:GB r l):aTk (uJ r l):=by
 have q:aXk 0 (uJ r l):=by
  unfold uJ;refine(aUh (bAc _ 0) (λy e=>aVr (aNd aWl (mvC r) 0 (λc i=>by obtain⟨m,hm,rfl⟩:=List.mem_map.1 i;exact pM_of h hm) y e).1)).app ?_;rw [List.length_map,nC,Nat.zero_add];exact itmL_B _ 0 _ λk _ n=>by rw [Nat.zero_add];exact pR_of h n
 intro g it d;obtain⟨a,b,c⟩:=q g it d;refine⟨a,b,λj k o=>?_⟩;obtain⟨p,y,s,u⟩:=c j k o;exact⟨p,y,by rw [s,Nat.zero_add],u⟩
theorem aTf: ∀(xs:List dA) (i b:Nat),(∀(k:Nat) x,xs[k]? =some x->pR r (i+k) x.When)-> ∀(g:Nat) it,(aCs r l i b xs)[g]? =some it-> ∃k,k<xs.length/\it.M=MkR r l (i+k)/\pR r (i+k) it.c/\
  ∀(j:Nat) y,j<k->xs[j]? =some y-> ∃(q:Nat) (z:Itm),(kJ b (xs.map dA.When))[j]? =some ((b+q:Nat):Int)/\q<g/\(aCs r l i b xs)[q]? =some z/\z.c=y.When/\z.M=MkR r l (i+j)
 | [],i,b,_,g,it,h=>by rw [aCs]at h;simp at h
 |x::xs,i,b,h,g,it,d=>by
  rw [aCs]at d⊢;have s:=h 0 x rfl;have E:=aFa b x.When;have a:((kG b x.When).map (itm (MkR r l i) (rlP r))).length=(kG b x.When).length:=List.length_map _
  by_cases c:g<(kG b x.When).length
  ·rw [List.getElem?_append_left (by rw [a];exact c),List.getElem?_map,Option.map_eq_some_iff]at d;obtain⟨y,e,rfl⟩:=d;exact⟨0,by simp,rfl,aFn aYm b x.When s y (qS e),λj y n=>absurd n (Nat.not_lt_zero _)⟩
  ·rw [List.getElem?_append_right (by rw [a];omega),a]at d;obtain⟨k,_,o,p,u⟩:=aTf xs (i+1) (b+(kG b x.When).length) (λk y e=>by rw [show i+1+k=i+(k+1)by omega];exact h (k+1) y (by simpa using e)) _ it d;have w:i+1+k=i+(k+1):=by omega
   rw [w]at o p;refine⟨k+1,by simp;omega,o,p,λj y n e=>?_⟩
   cases j with
   |zero=>
    obtain rfl:x=y:=by simpa using e
    refine⟨(kG b x.When).length-1,itm (MkR r l i) (rlP r) ⟨x.When,(dG b x.When.Kids).2⟩,?_,by omega,?_,rfl,rfl⟩
    ·rw [List.map_cons,kJ,List.getElem?_cons_zero];congr 2;omega
    ·rw [List.getElem?_append_left (by rw [a];omega),List.getElem?_map,aDj];rfl
   |succ j=>
    obtain⟨q,z,A,_,B,C,D⟩:=u j y (by omega) (by simpa using e);refine⟨(kG b x.When).length+q,z,?_,by omega,?_,C,by rw [D];congr 1;omega⟩
    ·rw [List.map_cons,kJ,List.getElem?_cons_succ,A];congr 2;omega
    ·rw [List.getElem?_append_right (by rw [a];omega),a,Nat.add_sub_cancel_left];exact B
theorem aPs: ∀(xs:List dA) (i b j:Nat) (y:dA),xs[j]? =some y-> ∃(q:Nat) (z:Itm),(kJ b (xs.map dA.When))[j]? =some ((b+q:Nat):Int)/\(aCs r l i b xs)[q]? =some z/\z.c=y.When/\z.M=MkR r l (i+j)
 | [],_,_,j,y,h=>by simp at h
 |x::xs,i,b,0,y,h=>by
  obtain rfl:x=y:=by simpa using h
  have o:=aFa b x.When;have a:((kG b x.When).map (itm (MkR r l i) (rlP r))).length=(kG b x.When).length:=List.length_map _;refine⟨(kG b x.When).length-1,itm (MkR r l i) (rlP r) ⟨x.When,(dG b x.When.Kids).2⟩,?_,?_,rfl,rfl⟩
  ·rw [List.map_cons,kJ,List.getElem?_cons_zero];congr 2;omega
  ·rw [aCs,List.getElem?_append_left (by rw [a];omega),List.getElem?_map,aDj];rfl
 |x::xs,i,b,j+1,y,h=>by
  have a:((kG b x.When).map (itm (MkR r l i) (rlP r))).length=(kG b x.When).length:=List.length_map _;obtain⟨q,z,d,e,k,n⟩:=aPs xs (i+1) (b+(kG b x.When).length) j y (by simpa using h);refine⟨(kG b x.When).length+q,z,?_,?_,k,by rw [n];congr 1;omega⟩
  ·rw [List.map_cons,kJ,List.getElem?_cons_succ,d];congr 2;omega
  ·rw [aCs,List.getElem?_append_right (by rw [a];omega),a,Nat.add_sub_cancel_left];exact e
end
theorem aXp (E:En) (M:Mk): ∀(m:Nat) (c:Cond),dN c<=m->Gt c->ndA E 0 (mkN M c)=mkN M c
 |0,c,h,_=>by have:=uF c;omega
 |m+1,c,h,g=>by
  have b: ∀x∈c.Kids,ndA E 0 (mkN M x)=mkN M x:=λx a=>by
   obtain⟨_,i⟩:=List.getElem?_of_mem a;exact aXp E M m x (by have:=(qF g.ok i).2.1;omega) (g.kid a)
  have gk:=g.gk;have k:=g.self;have d:aHi E 0 (c.Kids.map (mkN M))=c.Kids.map (mkN M):=by
   rw [aGm,List.map_map];exact List.map_congr_left λx a=>b x a
  rw [mP];rcases kinds k.k1 with e|e|e|e|e|e|e|e|e|e|e|e|e|e|e<;>rw [e]<;>simp only [mkK,Int.reduceEq,if_true,if_false,or_true,true_or,or_self]
  ·rw [ndA]
  ·rw [ndA]
  ·rw [ndA]
  ·rw [ndA]
  ·rw [ndA,win_zero]
  ·rw [ndA]
  ·rw [ndA]
  ·obtain⟨x,a⟩:=jD (gk.o (by omega));rw [a,ndA,List.map_singleton,List.getD_cons_zero,b x (by rw [a];exact List.mem_cons_self)]
  ·rw [ndA,d]
  ·rw [ndA,d]
  ·obtain⟨x,a⟩:=jD (gk.o (by omega));rw [a,ndA,List.map_singleton,List.getD_cons_zero,b x (by rw [a];exact List.mem_cons_self),win_zero]
  ·obtain⟨x,a⟩:=jD (gk.o (by omega));rw [a,ndA,List.map_singleton,List.getD_cons_zero,b x (by rw [a];exact List.mem_cons_self),win_zero]
  ·obtain⟨x,a⟩:=jD (gk.o (by omega));rw [a,ndA,List.map_singleton,List.getD_cons_zero,b x (by rw [a];exact List.mem_cons_self),win_zero]
  ·obtain⟨x,y,a⟩:=aFv (gk.t e);rw [a];show ndA E 0 (.since (mkN M x) (mkN M y) 0 false)= .since (mkN M x) (mkN M y) 0 false;rw [ndA,b x (by rw [a];simp),b y (by rw [a];simp)];rfl
  ·obtain⟨x,a⟩:=jD (gk.o (by omega));rw [a,List.map_singleton,List.getD_cons_zero,ndA,b x (by rw [a];exact List.mem_cons_self)];rfl
theorem aFi {r:Rules}{l:List fF} (h:GB r l) (f:Nat->List fD):NewA f (dP r l):=by
 have g:=h.g;refine⟨λx a=>?_,λk b=>?_⟩
 ·obtain⟨m,hm,rfl⟩:=List.mem_map.1 a;exact aXp _ _ _ m.When (Nat.le_refl _) (g.mg m hm).1
 ·obtain⟨i,hi⟩:=List.getElem?_of_mem b;change (r.Rules.mapIdx (rlN r l))[i]? =some k at hi;rw [List.getElem?_mapIdx,Option.map_eq_some_iff]at hi;obtain⟨x,a,rfl⟩:=hi;exact aXp _ _ _ x.When (Nat.le_refl _) (g.lg x (qS a)).1
structure FrI (l:List fF)(f:Nat->List fD):Prop where
 len: ∀t,(f t).length=l.length
 bd: ∀t x,x∈f t-> -1125899906842624<=x.N/\x.N<=1125899906842624
section
variable {r:Rules}{l:List fF}{f:Nat->List fD}{t:Nat}
theorem bBf (h:GB r l)(a:FrI l f)(t:Nat):((EnW f (dP r l)).ps t).length=r.Phases.length:=by
 rw [ps_A (rH h) a.len (aFi h f),aNj,List.length_replicate]
theorem rlE_rng (h:GB r l)(a:FrI l f)(t:Nat): ∀x∈(EnW f (dP r l)).rl t,0<=x/\x<=2:=(aSq (aAz (rH h) a.len t) (a.len t)).2.2.1
theorem bBo (h:GB r l)(o:FrI l f){R:Nat}(k:Nd)(j:wfN l.length r.Phases.length R k)(t:Nat):0<=den (EnW f (dP r l)) k t/\den (EnW f (dP r l)) k t<=2:=by
 have g:=h.g
 cases k with
 |constant c=>rw [wfN]at j;rw [den];exact j
 |number tr op n=>
  rw [wfN]at j;rw [den];dsimp only;unfold aQp;obtain⟨y,e,q⟩:=aOj (m:=(EnW f (dP r l)).m t) (tr:=tr) (op:=op) (n:=n) ⟨j.1,by show tr<((f t).length:Int);rw [o.len];exact j.2⟩;rw [e];exact q
 |pair a b da db op=>
  rw [wfN]at j;rw [den];dsimp only;unfold pairT;obtain⟨y,e,q⟩:=bBh (m:=(EnW f (dP r l)).m t) (a:=a) (b:=b) (da:=da) (db:=db) (op:=op) ⟨⟨j.1.1,by show a<((f t).length:Int);rw [o.len];exact j.1.2⟩,j.2.1,by show b<((f t).length:Int);rw [o.len];exact j.2.2⟩;rw [e];exact q
 |steady tr n fr _=>
  rw [den];dsimp only;unfold stT;split
  ·omega
  ·split<;>omega
 |phase p=>
  rw [wfN]at j;rw [den];dsimp only;unfold uH;have u:=bBf h o t;obtain⟨y,e,q⟩:=aTb (m:=(EnW f (dP r l)).m t) (p:=p) ⟨j.1,by show p<(((EnW f (dP r l)).ps t).length:Int);rw [u];exact j.2⟩ (by show((EnW f (dP r l)).ps t).length<=_;rw [u];have:=g.p;omega);rw [e];exact q
 |rule i=>
  rw [den];dsimp only;unfold aIc
  cases e:at' ((EnW f (dP r l)).m t).rules i with
  |none=>exact⟨by decide,by decide⟩
  |some y=>
   have m:y∈(EnW f (dP r l)).rl t:=by
    unfold at' at e;split at e
    ·exact qS e
    ·exact absurd e (by simp)
   exact rlE_rng h o t y m
 |not k=>rw [den];exact bAa _
 |group _ s=>rw [den];cases s<;>exact aQr (by decide) _ _ (by decide)
 |count k n fr a b=>rw [den];exact aUy _ _ _
 |since a b c _=>
  rw [den]
  cases t with
  |zero=>rw [aEw];exact aBl _ _ _
  |succ t=>rw [aEw];exact aBl _ _ _
 |rises k a b=>rw [den];exact aKr _ _
theorem wf_M (h:GB r l){c:Cond}(a:pM r c):wfN l.length r.Phases.length 0 (mkN (MkR r l 0) c):=by
 refine aLb (MkR r l 0) pMv (λc a=>?_) (dN c) c (Nat.le_refl _) a.1 (λs b=>aNk (h.n s (a.2.2 s b))) a.2.1;unfold pMv at a;constructor<;>(intro e;rw [e]at a;simp at a)
theorem wf_R (h:GB r l){i:Nat}{c:Cond}(a:pR r i c):wfN l.length r.Phases.length i (mkN (MkR r l i) c):=by
 refine aLb (MkR r l i) (pRl r i) (λc a=>?_) (dN c) c (Nat.le_refl _) a.1 (λs b=>aNk (h.n s (a.2.2 s b))) a.2.1;obtain⟨d,k⟩:=aGs i a;refine⟨λe=>aWw h (d e),λe=>?_⟩;obtain⟨_,_,-,o,_,-⟩:=ru_at (l:=l) (k e);rw [o];omega
theorem itms_M (h:GB r l){n:Nat}{it:Itm}(b:n<cNs (mvC r))(a:(uJ r l)[n]? =some it):it.M=MkR r l 0/\pM r it.c:=by
 unfold uJ at a;rw [List.getElem?_append_left (by rw [List.length_map,nC];exact b),List.getElem?_map,Option.map_eq_some_iff]at a;obtain⟨y,d,rfl⟩:=a;exact⟨rfl,aNd aWl (mvC r) 0 (λc e=>by obtain⟨m,hm,rfl⟩:=List.mem_map.1 e;exact pM_of h hm) y (qS d)⟩
theorem itms_R (h:GB r l){n:Nat}{it:Itm}(p:cNs (mvC r)<=n)(d:(uJ r l)[n]? =some it): ∃k,k<r.Rules.length/\it.M=MkR r l k/\pR r k it.c/\
    ∀(j:Nat) y,j<k->r.Rules[j]? =some y-> ∃(q:Nat) (z:Itm),(kJ (cNs (mvC r)) (rlC r))[j]? =some (q:Int)/\q<n/\(uJ r l)[q]? =some z/\z.c=y.When/\z.M=MkR r l j:=by
 have a:((bW 0 (mvC r)).map (itm (MkR r l 0) (rlP r))).length=cNs (mvC r):=by rw [List.length_map,nC]
 have b:=d;unfold uJ at b;rw [List.getElem?_append_right (by rw [a];exact p),a]at b;obtain⟨k,s,e,i,u⟩:=aTf r.Rules 0 _ (λk _ w=>by rw [Nat.zero_add];exact pR_of h w) _ it b;rw [Nat.zero_add]at e i;refine⟨k,s,e,i,λj y A B=>?_⟩;obtain⟨q,z,C,_,D,E,o⟩:=u j y A B;rw [Nat.zero_add]at o;refine⟨cNs (mvC r)+q,z,C,by omega,?_,E,o⟩;unfold uJ;rw [List.getElem?_append_right (by rw [a];omega),a,Nat.add_sub_cancel_left];exact D
theorem itms_rng (h:GB r l) (e:FrI l f): ∀it∈uJ r l,∀s,0<=den (EnW f (dP r l)) (mkN it.M it.c) s/\den (EnW f (dP r l)) (mkN it.M it.c) s<=2:=λit d s=>by
 obtain⟨n,i⟩:=List.getElem?_of_mem d
 by_cases c:n<cNs (mvC r)
 ·obtain⟨a,b⟩:=itms_M h c i;rw [a];exact bBo h e _ (wf_M h b) s
 ·obtain⟨_,-,a,b,-⟩:=itms_R h (by omega) i;rw [a];exact bBo h e _ (wf_R h b) s
theorem at_eq6 (h:GB r l)(c:FrI l f){v:gG}(d:v.names=l.map fF.Name)(hd:v.dens=rD l)(e:v.told=f t){s:Str}(j:s∈nK r)(i:Nat):
  Faf v s=some ((EnW f (dP r l)).tk ((MkR r l i).tr s) t,(MkR r l i).dn ((MkR r l i).tr s))/\at' ((EnW f (dP r l)).told t) ((MkR r l i).tr s)=some ((EnW f (dP r l)).tk ((MkR r l i).tr s) t):=by
 have hm:=h.n s j;have b:=aNk hm;have k:=aOh (l.map fF.Name) s (by rw [List.length_map];have:=h.t.n;omega) hm;obtain⟨_,o⟩:=wK (l:=f t) (i:=trI l s) (by rw [c.len];exact b);have a2:at' ((EnW f (dP r l)).told t) ((MkR r l i).tr s)=some ((EnW f (dP r l)).tk ((MkR r l i).tr s) t):=by
  unfold En.tk;show at' (f t) (trI l s)=some ((at' (f t) (trI l s)).getD _);rw [o];rfl
 refine⟨?_,a2⟩;have a:at' (f t) (trI l s)=some ((EnW f (dP r l)).tk ((MkR r l i).tr s) t):=a2;have a3:at' (rD l) (trI l s)=some ((MkR r l i).dn ((MkR r l i).tr s)):=at_D (by unfold rD;rw [List.length_map];exact b);unfold Faf;rw [d,hd,e,k,zC];show gB (at' (f t) (trI l s)) _=_;rw [a,zC];show gB (at' (rD l) (trI l s)) _=_;rw [a3,zC]
theorem tk_bd (b:FrI l f)(w:gY)(tr:Int)(s:Nat): -1125899906842624<=((EnW f w).tk tr s).N/\((EnW f w).tk tr s).N<=1125899906842624:=by
 unfold En.tk
 cases e:at' ((EnW f w).told s) tr with
 |none=>exact⟨by decide,by decide⟩
 |some y=>
  have m:y∈f s:=by
   have a:at' (f s) tr=some y:=e;unfold at' at a;split at a
   ·exact qS a
   ·exact absurd a (by simp)
  exact b.bd s y m
theorem aVf (h:GB r l) (a:FrI l f) {v:gG} (d:v.names=l.map fF.Name) (hd:v.dens=rD l) (e:v.told=f t) (b:v.frames=(t:Int)) (j:t<=1000000000) {i:Nat}{c:Cond}{x:gI} (n: ∀s∈kH c,s∈nK r)
  (ph:c.Kind=6->v.phase=(EnW f (dP r l)).ps t/\v.phase.length<=2000000/\Fac v.r.Phases c.Name=some ((MkR r l i).ph c.Name)/\0<=(MkR r l i).ph c.Name/\(MkR r l i).ph c.Name<v.phase.length)
  (rl:c.Kind=7-> ∃y,at' v.nodes x.rule=some y/\at' ((EnW f (dP r l)).rl t) ((MkR r l i).rl c.Name)=some y.now):Looks (EnW f (dP r l)) (MkR r l i) t c x v:=by
 have nm: ∀s∈nm1 c,s∈nK r:=λs o=>n s (by rw [aAv,mA];exact .inl o)
 refine⟨b,j,λk=>at_eq6 h a d hd e (nm _ ?_) i,λk=>at_eq6 h a d hd e (nm _ ?_) i,λtr s=>tk_bd a _ tr s,ph,rl⟩
 ·unfold nm1;rcases k with k|k|k<;>simp [k]
 ·unfold nm1;simp [k]
end
structure EvI (r:Rules)(l:List fF)(f:Nat->List fD)(t:Nat)(v:gG):Prop where
 rs:v.r=r
 names:v.names=l.map fF.Name
 dens:v.dens=rD l
 frames:v.frames=(t:Int)
 phase:v.phase=psB (EnW f (dP r l)) (dP r l) t
 nd:tN (EnW f (dP r l)) (uJ r l) v.nodes 0 t
 first:v.first=((cNs (mvC r):Nat):Int)
 moves:v.moves=kJ 0 (mvC r)
 rules:v.rules=kJ (cNs (mvC r)) (rlC r)
section
variable {r:Rules}{l:List fF}{f:Nat->List fD}{t:Nat}{v:gG}
theorem evI_zero (h:GB r l) (f:Nat->List fD):EvI r l f 0 (ev0 r l):=by
 refine⟨rfl,rfl,rfl,rfl,rfl,⟨?_,λg it a=>?_⟩,rfl,rfl,rfl⟩;show(List.map _ _).length=_;rw [List.length_map,<-aRn (l:=l),List.length_map];have hi:=(bBb h g it a).2.1;have e:(bW 0 (mvC r)++bW (cNs (mvC r)) (rlC r))[g]? =some ⟨it.c,it.ks⟩:=by rw [<-aRn (l:=l),List.getElem?_map,a];rfl
 refine⟨aZ (rlP r) ⟨it.c,it.ks⟩,?_,?_,?_⟩;show(List.map _ _)[g]? =_;rw [List.getElem?_map,e];rfl;rw [if_neg (Nat.not_lt_zero _)];exact node0_I (it:=⟨it.c,it.ks⟩) hi;rw [bBd it (qS a)];rfl
theorem rlE_at (h:GB r l)(a:FrI l f){j:Nat}{y:dA}(b:r.Rules[j]? =some y)(t:Nat):at' ((EnW f (dP r l)).rl t) (j:Int)=some (den (EnW f (dP r l)) (mkN (MkR r l j) y.When) t):=by
 rw [rl_A (rH h) a.len (aFi h f) t,wX,List.getElem?_map];show Option.map _ ((r.Rules.mapIdx (rlN r l))[j]?)=_;rw [List.getElem?_mapIdx,b];rfl
theorem look_R (h:GB r l) (d:FrI l f) (b:EvI r l f t v) (B:t<=1000000000) {n:Nat}{ns:List gI}{it:Itm}{x:gI} (C:cNs (mvC r)<=n) (D:tN (EnW f (dP r l)) (uJ r l) ns n t) (a:(uJ r l)[n]? =some it) (i:x.rule=it.rule):
    Looks (EnW f (dP r l)) it.M t it.c x (wN v (f t) ((EnW f (dP r l)).ps t) ns):=by
 obtain⟨k,_,E,o,F⟩:=itms_R h C a;have g:=h.g;obtain⟨m1,m2⟩:=aGs k (aGr o.2.1);have s:=bBf h d t;rw [E];refine aVf (v:=wN v (f t) ((EnW f (dP r l)).ps t) ns) h d b.names b.dens rfl b.frames B o.2.2 (λe=>?_) λe=>?_;obtain⟨G,u,-⟩:=ph_at g.p g.pd (m1 e);refine⟨rfl,by show((EnW f (dP r l)).ps t).length<=_;rw [s];have:=g.p;omega,?_,u.1,?_⟩;show Fac v.r.Phases _=_;rw [b.rs];exact G;show aBx r.Phases it.c.Name<(((EnW f (dP r l)).ps t).length:Int);rw [s];exact u.2;obtain⟨j,y,_,_,a2,a3,a4,a5,H,-⟩:=rlP_at (l:=l) (m2 e);obtain⟨_,_,A,I,J,K,L⟩:=F j y a3 a4;obtain⟨w,N,O⟩:=D.now (v:=wN v (f t) ((EnW f (dP r l)).ps t) ns) J I;refine⟨w,?_,?_⟩;rw [i,bBd it (qS a),if_pos e,H];rw [a5]at A;rw [oI A];exact yR N;rw [a2,rlE_at h d a4 t,O,K,L]
theorem look_M (h:GB r l)(i:FrI l f)(a:EvI r l f t v)(j:t<=1000000000){n:Nat}{ns:List gI}{it:Itm}{x:gI}{ph:List Bool}(k:n<cNs (mvC r))(b:(uJ r l)[n]? =some it):
    Looks (EnW f (dP r l)) it.M t it.c x (wN v (f t) ph ns):=by
 obtain⟨o,d⟩:=itms_M h k b;obtain⟨p,q⟩:=pMv_no d.2.1;rw [o];exact aVf (v:=wN v (f t) ph ns) h i a.names a.dens rfl a.frames j d.2.2 (λe=>absurd e p) λe=>absurd e q
theorem moved_6 (h:GB r l) (e:FrI l f) (a:EvI r l f t v) {ns:List gI} (B:tN (EnW f (dP r l)) (uJ r l) ns (cNs (mvC r)) t):
  Fba (wN v (f t) v.phase ns) v.phase=some ((EnW f (dP r l)).ps t):=by
 have g:=h.g;have L:=g.p;rw [ps_A (rH h) e.len (aFi h f) t,a.phase];have j:((dP r l).moves.map λx=>(x,den (EnW f (dP r l)) x.when t)).length=r.Moves.length:=by
  rw [List.length_map];show(r.Moves.map (mvN r l)).length=_;rw [List.length_map]
 refine moved_ok6 (v:=wN v (f t) (psB (EnW f (dP r l)) (dP r l) t) ns) (zs:=(dP r l).moves.map λx=>(x,den (EnW f (dP r l)) x.when t)) (P:=r.Phases.length) ⟨?_,?_,?_,λk _ n=>?_⟩ _ ?_ (by omega)
 ·show v.r.Moves.length=_;rw [a.rs,j]
 ·rw [j];have:=g.m;omega
 ·show v.r.Phases.length=_;rw [a.rs]
 ·rw [List.getElem?_map,Option.map_eq_some_iff]at n;obtain⟨x,b,rfl⟩:=n;change (r.Moves.map (mvN r l))[k]? =some x at b;rw [List.getElem?_map,Option.map_eq_some_iff]at b;obtain⟨m,hm,rfl⟩:=b;have C:=qS hm;obtain⟨f1,f2,-⟩:=mv_ok h.c C;obtain⟨q,y,o,u,D⟩:=aUc (mvC r) 0 k m.When (by unfold mvC;rw [List.getElem?_map,hm];rfl);rw [Nat.zero_add]at o;have A:q<cNs (mvC r):=by have:=(gS.1 u).1;rwa [nC]at this
  have E:(uJ r l)[q]? =some (itm (MkR r l 0) (rlP r) y):=by
   unfold uJ;rw [List.getElem?_append_left (by rw [List.length_map,nC];exact A),List.getElem?_map,u];rfl
  obtain⟨w,F,G⟩:=B.now (v:=wN v (f t) v.phase ns) E A;obtain⟨_,_,H⟩:=ph_at g.p g.pd f1;obtain⟨I,J,-⟩:=ph_at g.p g.pd f2;refine⟨m,(q:Int),w,?_,?_,yR F,?_,?_,J,λi s K=>?_⟩
  ·show v.r.Moves[k]? =_;rw [a.rs];exact hm
  ·show at' v.moves (k:Int)=_;rw [a.moves,wX];exact o
  ·rw [G];show den _ (mkN (MkR r l 0) y.c) t=den _ (mkN (MkR r l 0) m.When) t;rw [D]
  ·show Fac v.r.Phases m.To=_;rw [a.rs];exact I
  ·refine H i s ?_;have d:v.r.Phases[i]? =some s:=K;rwa [a.rs]at d
 ·rw [<-aSs];exact(aAz (rH h) e.len t).po
theorem next_6 (h:GB r l) (e:FrI l f) (a:EvI r l f t v) (i:t<=1000000000): ∃d,Fb7 v (f t)=some d/\EvI r l f (t+1) d/\d.phase=(EnW f (dP r l)).ps t/\d.told=f t/\
  ∀(j:Nat) y,r.Rules[j]? =some y-> ∃k x,at' d.rules (j:Int)=some k/\at' d.nodes k=some x/\at' ((EnW f (dP r l)).rl t) (j:Int)=some x.now:=by
 have B:=bBb h;have ll:(uJ r l).length<=24000:=by rw [aTu];have:=mv_cN h;have:=rl_cN h;omega
 obtain⟨ns,C,u⟩:=frame6_ok (E:=EnW f (dP r l)) (told:=f t) B a.nd a.first (by rw [aTu];omega) (by omega) (itms_rng h e) a.frames i
  (λn ns it x o _ c _ _=>look_M h e a i o c)
  (λn ns it x o p c _ s=>look_R h e a i o p c s)
  (λns p=>moved_6 h e a p)
 refine⟨_,C,⟨a.rs,a.names,a.dens,rfl,rfl,u,a.first,a.moves,a.rules⟩,rfl,rfl,λj y w=>?_⟩;obtain⟨q,z,D,F,G,H⟩:=aPs (r:=r) (l:=l) r.Rules 0 (cNs (mvC r)) j y w;have I:(uJ r l)[cNs (mvC r)+q]? =some z:=by
  have b:((bW 0 (mvC r)).map (itm (MkR r l 0) (rlP r))).length=cNs (mvC r):=by rw [List.length_map,nC]
  unfold uJ;rw [List.getElem?_append_right (by rw [b];omega),b,Nat.add_sub_cancel_left];exact F
 obtain⟨x,J,A,-⟩:=u.nd _ z I;rw [if_neg (Nat.not_lt_zero _)]at A;refine⟨((cNs (mvC r)+q:Nat):Int),x,?_,yR J,?_⟩
 ·show at' v.rules (j:Int)=_;rw [a.rules,wX];exact D
 ·rw [rlE_at h e w t,A.now,G,H,Nat.zero_add];rfl
end
theorem aYq {r:Rules}{l:List fF}(f:Nat->List fD): ∀n,(runT f (dP r l) n).2.rules.length=r.Rules.length
 |0=>by show(r.Rules.mapIdx _).length=_;simp
 |n+1=>by
  show(nxt (f n) (runT f (dP r l) n).2).2.rules.length=_;rw [(aGl _ _).2,aYq f n]
theorem lacks_L2 (ns:List Str) (l:List fF) (a:l.length<=9223372036854775807) {i:Nat}{s:Str} (d:ns[i]? =some s):Fg2 ns l (i:Int) (false,0)=some (l.any λt=>decide (t.Name=s)):=by
 unfold Fg2;refine(dV (λ(k:Nat)=>((l.take k).any (λt=>decide (t.Name=s)),(k:Int))) l _ a ?_ ?_);intro e k x b c;have h:l.take (k+1)=l.take k++[x]:=by rw [List.take_add_one,b];rfl
 simp only [zI];rw [yM c,zU,yR b,h,List.any_append,fQ c a];cases(l.take k).any (λt=>decide (t.Name=s));rw [zQ,zC,yR d,zC,zC,Bool.false_or];simp;rw [zU,zC,Bool.true_or];intro e;simp only [zI];rw [yN,zQ,List.take_length]
theorem lacks_eq (ns:List Str) (l:List fF) (c:ns.length<=9223372036854775807) (d:l.length<=9223372036854775807):Fet ns l=some (if ns.all (λs=>l.any λt=>decide (t.Name=s))=true then 0 else 4):=by
 unfold Fet;simp only [xB];unfold Fi7;rw [yY ns (λ_ s=>if (l.any λt=>decide (t.Name=s))=true then none else some (some 4)) (some 0) c ?_ ?_]
 ·have b: ∀(a:List Str) (i:Nat),dR (λ_ s=>if (l.any λt=>decide (t.Name=s))=true then none else some (some (4:Int))) (some 0) a i=some (if a.all (λs=>l.any λt=>decide (t.Name=s))=true then 0 else 4):=by
   intro a
   induction a with
   |nil=>intro i;rfl
   |cons s a e=>
    intro i;rw [dR,List.all_cons]
    cases(l.any λt=>decide (t.Name=s))
    ·rfl
    ·simpa using e (i+1)
  rw [b]
 ·intro h i x j hi;simp only [zI,xB];rw [yM hi,zU,lacks_L2 ns l d j,zC,fQ hi c]
  cases(l.any λt=>decide (t.Name=x))<;>rfl
 ·intro h;simp only [zI];rw [yN,zQ]
theorem aNy {r:Rules}{l:List fF} (a:okR r) (b:okL sU l):Fe7 r l=some (aAl r l):=by
 obtain⟨e,c⟩:=aMc r;unfold Fe7 aAl;rw [rCheck_eq r a,c,zC];simp only [zI,Option.getD_some,xE];by_cases z:e=0;subst z;have g:=aLl a c;rw [if_neg (by simp),if_neg (by simp),aIx l b,aSg,zC];by_cases y:aNp l=0;have h:=aTm g;have d:Fc4 r=some (aVm r):=aZi g;rw [if_neg (by simpa using y),if_neg (by simpa using y),d,zC,lacks_eq _ _ (by omega) b.1,zC];rw [if_pos y,if_pos y];rw [if_pos z,if_pos z]
theorem lists_ex (l:List (List Int)) (e:Int) (o:l.length<=1000) (u: ∀x∈l,x.length<=100000): ∃t,Fcm l e=some t:=by
 unfold Fcm;have a: ∃q,Fd5 (gX.mk []) l=some q/\q.out.length<=10000000000:=by
  unfold Fd5;simp only [zI];obtain⟨_,c,d⟩:=aAx (gX.mk []) (l.length:Int) (b:=0) (by simp) (by omega);rw [c,zC];unfold Fi1;refine aV (λ(i:Nat) (s:List Int)=>((i:Int),s)) l (λi s=>s.length<=22+i*5000000) (λ(r:gX)=>r.out.length<=10000000000) (by omega) ?_ ?_ _ (by simpa using d)
  ·intro w i s x n hi h;have y:=u x (qS n);have j:i*5000000<=1000*5000000:=Nat.mul_le_mul_right _ (by omega);obtain⟨r,k,z⟩:=ink_Ints (gX.mk s) x (b:=22+i*5000000) (by simpa using h) (by omega);refine⟨r.out,by rw [Nat.succ_mul];omega,?_⟩;simp only [zI];rw [yM hi,zU,yR n,zC,k,zC,fQ hi (by omega)]
  ·intro w s h;have j:l.length*5000000<=1000*5000000:=Nat.mul_le_mul_right _ o;simp only [zI];rw [yN,zQ];exact⟨_,rfl,by simpa using(Nat.le_trans h (by omega):s.length<=10000000000)⟩
 obtain⟨q,c,d⟩:=a;obtain⟨_,k,z⟩:=aAx q e d (by omega);rw [c,zC];unfold Fci Fc9;rw [k];exact⟨_,rfl⟩
theorem named_eq6 {v:gG}{ss:List Str} (bs:List Bool) (j:v.r.Phases=ss) (h:bs.length=ss.length) (p:ss.length<=20):Fcc v bs=some (phL bs ss):=by
 have a:Fg1 v bs ([],0)=some (phL bs ss):=by
  unfold Fg1;have k:(([]:List Str),(0:Int))=(λ(i:Nat)=>(phL (bs.take i) (ss.take i),(i:Int))) 0:=by
   show _=(phL (bs.take 0) (ss.take 0),((0:Nat):Int));rw [List.take_zero,List.take_zero];rfl
  rw [k];refine dV (λ(i:Nat)=>(phL (bs.take i) (ss.take i),(i:Int))) bs _ (by omega) ?_ ?_
  ·intro n i b c hi;obtain⟨s,d⟩: ∃s,ss[i]? =some s:=⟨_,gE (by omega)⟩;have t1:bs.take (i+1)=bs.take i++[b]:=jE c;have t2:ss.take (i+1)=ss.take i++[s]:=jE d;have e:=aDm (bs.take i) (ss.take i);have o:(ss.take i).length<=20:=by rw [List.length_take];omega
   simp only [zI];rw [yM hi,zU,yR c,zC,fQ hi (by omega),t1,t2,aGd b s _ _ (by rw [List.length_take,List.length_take,h])]
   cases b
   ·rw [zQ,zC,if_neg (by decide),List.append_nil]
   ·rw [zU,j,yR d,zC,ap16x _ _ (by omega),zC,zC,if_pos rfl]
  ·intro n;simp only [zI];rw [yN,zQ,List.take_length,List.take_of_length_le (by omega)]
 unfold Fcc;rw [a,zC]
end Go.Lf
