/- Laws that the claim stands on; no condition beyond those stated. -/
import Derived.Test.YteljpoagacbmoaaGreatDoorTEa
namespace Go.Lf
open Go.OB
theorem aQr (s:Str): ∀(l:List Str) (i:Nat),s∈l->bC (λi x=>if decide (x=s)=true then some (some (i:Int))else none) (some (-1)) l i=some (pK (mY l i) s 0)
 | [],_,h=>by simp at h
 |x::l,i,h=>by
  rw [bC,mY,aCf]
  by_cases c:x=s
  ·rw [if_pos c];simp [c]
  ·rw [if_neg c,<-aQr s l (i+1) ((List.mem_cons.1 h).resolve_left (Ne.symm c))];simp [c]
theorem aOf (l:List Str) (s:Str) (a:l.length<=9223372036854775807) (h:s∈l):Fac l s=some (pK (mY l 0) s 0):=by
 rw [<-aQr s l 0 h];unfold Fac;simp only [xU];unfold Fgd;refine xJ l _ _ a ?_ ?_;intro k _ x b hi;simp only [zI];rw [xB hi,zV,xG b,zC,eY hi a];cases decide (x=s)<;>rfl;intro k;simp only [zI];rw [xC];rfl
theorem idx_zip (l:List Str) (s:Str) (a:l.length<=9223372036854775807) (h:s∈l):aBc l s=pK (mY l 0) s 0:=by
 have e:Fai l s=some (pK (mY l 0) s 0):=by
  rw [<-aQr s l 0 h];unfold Fai;simp only [zI,xU];unfold Fco;refine xJ l _ _ a ?_ ?_
  ·intro b _ x c hi;simp only [zI];rw [xB hi,zV,xG c,zC,eY hi a,decide_eq_decide.2 (eq_comm:s=x↔x=s)]
   cases decide (x=s)<;>rfl
  ·intro b;simp only [zI];rw [xC];rfl
 unfold aBc;rw [e];rfl
theorem fo_map {a:Type}(g:a->Str)(s:Str): ∀(l:List a) (i:Nat),bC (λi x=>if decide (g x=s)=true then some (some (i:Int))else none) (some (-1)) l i=bC (λi x=>if decide (x=s)=true then some (some (i:Int))else none) (some (-1)) (l.map g) i
 | [],_=>rfl
 |x::l,i=>by
  rw [List.map_cons,bC,bC,fo_map g s l (i+1)]
def ruI (r:Rules)(s:Str):Int:=pK (mY (r.Rules.map dF.Name) 0) s 0
theorem aYh (r:Rules) (s:Str) (a:r.Rules.length<=9223372036854775807) (h:s∈r.Rules.map dF.Name):Faj r s=some (ruI r s):=by
 unfold ruI;rw [<-aQr s _ 0 h,<-fo_map];unfold Faj;simp only [xU];unfold Ffp;refine xJ r.Rules _ _ a ?_ ?_;intro k _ x b hi;simp only [zI];rw [xB hi,zV,xG b,zC,eY hi a];cases decide (x.Name=s)<;>rfl;intro k;simp only [zI];rw [xC];rfl
theorem aUu (s:Str): ∀(l:List Str) (i k:Nat),s∈l.take k->pK (mY (l.take k) i) s 0=pK (mY l i) s 0
 | [],i,k,h=>by simp at h
 |x::l,i,0,h=>by simp at h
 |x::l,i,k+1,h=>by
  rw [List.take_succ_cons,mY,mY,aCf,aCf]
  by_cases c:x=s
  ·rw [if_pos c,if_pos c]
  ·rw [if_neg c,if_neg c];exact aUu s l (i+1) k ((List.mem_cons.1 h).resolve_left (Ne.symm c))
theorem ru_at {r:Rules}{l:List fA}{i:Nat}{s:Str}(h:s∈(r.Rules.take i).map dF.Name): ∃(j:Nat) (x:dF),ruI r s=(j:Int)/\(MkR r l i).rl s=(j:Int)/\j<i/\r.Rules[j]? =some x/\x.Name=s:=by
 obtain⟨j,a,c⟩:=aBg s _ 0 h;have e:(r.Rules.map dF.Name).take i=(r.Rules.take i).map dF.Name:=by rw [List.map_take]
 have d:ruI r s=pK (mY ((r.Rules.take i).map dF.Name) 0) s 0:=by
  unfold ruI;rw [<-e];exact(aUu s _ 0 i (by rw [e];exact h)).symm
 rw [Nat.zero_add]at a;rw [List.getElem?_map,Option.map_eq_some_iff]at c;obtain⟨x,b,k⟩:=c;have n:=(gS.1 b).1;rw [List.length_take]at n;refine⟨j,x,by rw [d];exact a,a,by omega,?_,k⟩;rw [List.getElem?_take_of_lt (by omega)]at b;exact b
theorem aVq {c:Cond}(g:Gt c):aOh c:=by
 have gk:=g.gk;have a:=g.self;refine⟨a.k1,λh=>List.eq_nil_of_length_eq_zero (gk.z h),λh=>jG (gk.o h),λh=>aFd (gk.t h),λh=>⟨gk.g h,g.kids⟩,λh=>⟨gk.fr h,a.fr.2⟩,a.n,gk.st⟩
theorem ph_at {r:Rules} (n:r.Phases.length<=20) (d: ∀(i:Nat) x,r.Phases[i]? =some x->x∉r.Phases.take i) {s:Str} (h:s∈r.Phases):Fac r.Phases s=some (aBc r.Phases s)/\(0<=aBc r.Phases s/\aBc r.Phases s<r.Phases.length)/\ ∀(i:Nat) u,r.Phases[i]? =some u->(s=u↔aBc r.Phases s=(i:Int)):=by
 rw [idx_zip _ _ (by omega) h];refine⟨aOf _ _ (by omega) h,?_⟩;obtain⟨j,k,a⟩:=aBg s _ 0 h;rw [Nat.zero_add]at k;rw [k];have o:=(gS.1 a).1;refine⟨⟨by omega,by omega⟩,λi u b=>⟨λe=>?_,λe=>?_⟩⟩
 ·subst e;rcases Nat.lt_trichotomy j i with c|c|c
  ·exfalso;refine d i s b ?_;exact qS (i:=j) (by rw [List.getElem?_take_of_lt c];exact a)
  ·rw [c]
  ·exfalso;refine d j s a ?_;exact qS (i:=i) (by rw [List.getElem?_take_of_lt c];exact b)
 ·have:j=i:=by omega
  subst this;rw [a]at b;exact oI b
def mvC (r:Rules):List Cond:=r.Moves.map dK.When
def rlC (r:Rules):List Cond:=r.Rules.map dF.When
def rlP (r:Rules)(s:Str):Int:=(at' (aX (cNs (mvC r)) (rlC r)) (ruI r s)).getD 0
def ev0 (r:Rules)(l:List fA):gG:=
 gG.mk r (l.map fA.Name) (qY l) [] 0 ((List.replicate r.Phases.length false).set 0 true)
  ((aG 0 (mvC r)++aG (cNs (mvC r)) (rlC r)).map (aW (rlP r))) ((cNs (mvC r):Nat):Int) (aX 0 (mvC r)) (aX (cNs (mvC r)) (rlC r))
theorem aWu {n:Nat}: ∀l:List Cond,(∀x∈l,cN x<=n)->cNs l<=n*l.length
 | [],_=>by rw [cNs];exact Nat.zero_le _
 |x::l,h=>by
  have b:=h x List.mem_cons_self;have c:=aWu l λy a=>h y (List.mem_cons_of_mem _ a)
  rw [cNs,List.length_cons,Nat.mul_add];omega
theorem begin_eq (r:Rules)(b:r.Phases.length<=20):Fcp r=some ((List.replicate r.Phases.length false).set 0 true):=by
 unfold Fcp;have mk:make' 1 (r.Phases.length:Int) (false:Bool)=some (List.replicate r.Phases.length false):=by
  unfold make';rw [if_pos ⟨by omega,by omega,by omega⟩,Int.toNat_natCast]
 simp only [zI];rw [mk,zC,List.length_replicate]
 cases h:r.Phases.length with
 |zero=>rfl
 |succ n=>
  rw [dT (by omega:(0:Int)<((n+1:Nat):Int)),zV];have a:at' (List.replicate (n+1) false) 0=some false:=by
   have:=xG (l:=List.replicate (n+1) false) (i:=0) (x:=false) (by simp [List.replicate_succ]);exact this
  have s:set' (List.replicate (n+1) false) 0 true=some ((List.replicate (n+1) false).set 0 true):=by
   unfold set';rw [if_pos ⟨by omega,by rw [List.length_replicate];omega⟩];rfl
  rw [a,zC,s];rfl
def pM (r:Rules)(c:Cond):Prop:=Gt c/\qN pMv c=false/\ ∀s∈kF c,s∈mZ r
def pR (r:Rules)(i:Nat)(c:Cond):Prop:=Gt c/\qN (pRl r i) c=false/\ ∀s∈kF c,s∈mZ r
theorem aWy {r:Rules}(c x:Cond)(h:pM r c)(a:x∈c.Kids):pM r x:=⟨h.1.kid a,aQt a h.2.1,λs b=>h.2.2 s (aIy a b)⟩
theorem aXe {r:Rules}{i:Nat}(c x:Cond)(h:pR r i c)(a:x∈c.Kids):pR r i x:=⟨h.1.kid a,aQt a h.2.1,λs b=>h.2.2 s (aIy a b)⟩
theorem pM_of {r:Rules}{l:List fA}(h:GB r l){m:dK}(hm:m∈r.Moves):pM r m.When:=⟨(h.g.mg m hm).1,(mv_ok h.c hm).2.2,λ_ a=>nm_mv hm a⟩
theorem pR_of {r:Rules}{l:List fA}(h:GB r l){i:Nat}{x:dF}(a:r.Rules[i]? =some x):pR r i x.When:=⟨(h.g.lg x (qS a)).1,(aYt h.c i x a).2,λ_ b=>nm_rl (qS a) b⟩
theorem pMv_no {c:Cond}(h:qN pMv c=false):c.Kind≠6/\c.Kind≠7:=by
 have q:=aEo h;unfold pMv at q;constructor<;>(intro e;rw [e]at q;simp at q)
theorem dN_20 {c:Cond}(g:Gt c):dN c<=1000000:=by have:=g.d;omega
theorem mv_cN {r:Rules}{l:List fA}(h:GB r l):cNs (mvC r)<=12000:=by
 have q:=aWu (n:=200) (mvC r) (λ_ a=>by obtain⟨m,hm,rfl⟩:=List.mem_map.1 a;exact(h.g.mg m hm).1.n);have:=h.g.m;unfold mvC at q⊢;rw [List.length_map]at q;omega
theorem rl_cN {r:Rules}{l:List fA}(h:GB r l):cNs (rlC r)<=12000:=by
 have q:=aWu (n:=200) (rlC r) (λ_ a=>by obtain⟨m,hm,rfl⟩:=List.mem_map.1 a;exact(h.g.lg m hm).1.n);have:=h.g.l;unfold rlC at q⊢;rw [List.length_map]at q;omega
theorem rlP_at {r:Rules}{i:Nat}{s:Str}{l:List fA} (h:s∈(r.Rules.take i).map dF.Name): ∃(j:Nat) (x:dF) (k:Int),ruI r s=(j:Int)/\(MkR r l i).rl s=(j:Int)/\j<i/\r.Rules[j]? =some x/\(aX (cNs (mvC r)) (rlC r))[j]? =some k/\rlP r s=k/\at' (aX (cNs (mvC r)) ((r.Rules.take i).map dF.When)) (j:Int)=some k:=by
 obtain⟨j,x,b,d,n,c,-⟩:=ru_at (l:=l) h;have o:=(gS.1 c).1;have p:j<(aX (cNs (mvC r)) (rlC r)).length:=by rw [aBt];unfold rlC;rw [List.length_map];exact o
 have a:(aX (cNs (mvC r)) (rlC r))[j]? =some (aX (cNs (mvC r)) (rlC r))[j]:=gE p;refine⟨j,x,_,b,d,n,c,a,?_,?_⟩;unfold rlP;rw [b,qF,a];rfl;rw [qF,<-a];have e:rlC r=(r.Rules.take i).map dF.When++(r.Rules.drop i).map dF.When:=by rw [<-List.map_append,List.take_append_drop];rfl
 rw [e,aMi,List.getElem?_append_left];rw [aBt,List.length_map,List.length_take];omega
theorem empty_eq {r:Rules}{l:List fA}(h:GB r l):Fd9 r l=some (ev0 r l):=by
 have g:=h.g;have B:=empty1 l (by have:=h.t.n;omega);have C:=begin_eq r g.p;have nm:=mv_cN h;have J:=rl_cN h;have D:=empty2 (r:=r) (ph:=(List.replicate r.Phases.length false).set 0 true) (nm:=l.map fA.Name) (ds:=l.map λt=>t.Series.Den) (rl:=rlP r) (pM r) aWy
  (λv c a=>⟨⟨a.1.self.fr.1,a.1.self.fr.2⟩,a.1.kids,λd=>absurd d (pMv_no a.2.1).2⟩) (λm hm=>pM_of h hm) (by have:=g.m;omega) (λm hm=>dN_20 (g.mg m hm).1) (by show cNs (mvC r)<=_;omega)
 have b:((aG 0 (mvC r)).map (aW (rlP r))).length=cNs (mvC r):=by rw [List.length_map,mD]
 have w:=empty3 (r:=r) (ph:=(List.replicate r.Phases.length false).set 0 true) (nm:=l.map fA.Name) (ds:=l.map λt=>t.Series.Den) (rl:=rlP r) (ns:=(aG 0 (mvC r)).map (aW (rlP r))) (mv:=aX 0 (mvC r)) (f0:=((cNs (mvC r):Nat):Int))
  (λi x e=>⟨pR r i,aXe,pR_of h e,λv c E o a=>⟨⟨a.1.self.fr.1,a.1.self.fr.2⟩,a.1.kids,λd=>by
   have A:=(aEx i (aEo a.2.1)).2 d;obtain⟨_,_,_,F,a2,a3,a4,a5,G,H⟩:=rlP_at (l:=l) A;refine⟨ruI r c.Name,by rw [E];exact aYh r _ (by have:=g.l;omega) (by obtain⟨z,I,q⟩:=List.mem_map.1 A;exact List.mem_map.2 ⟨z,List.mem_of_mem_take I,q⟩),?_⟩;rw [o,b,F,G];exact H⟩⟩) (by have:=g.l;omega) (λx e=>dN_20 (g.lg x e).1) (by rw [b];show cNs (mvC r)+cNs (rlC r)<=_;omega)
 unfold Fd9;rw [C,zC,B,zC];dsimp only;rw [D,zC];simp only [zI];have s:((aG 0 (r.Moves.map dK.When)).map (aW (rlP r))).length=cNs (mvC r):=b;rw [b]at w;rw [s];have u:Fd1 r ((List.replicate r.Phases.length false).set 0 true) (l.map fA.Name) (l.map λt=>t.Series.Den) (aX 0 (r.Moves.map dK.When)) ((cNs (mvC r):Nat):Int) (0,(aG 0 (r.Moves.map dK.When)).map (aW (rlP r)),[])=_:=w;rw [u,zC];refine congrArg some ?_;unfold ev0;rw [List.map_append];rfl
def itm (M:Mk)(rl:Str->Int)(x:It):Itm:=⟨x.c,x.ks,M,if x.c.Kind=7 then rl x.c.Name else 0⟩
def aVz (b:Nat)(L:List Itm):Prop:= ∀(g:Nat) (it:Itm),L[g]? =some it->it.ks.length=it.c.Kids.length/\aOh it.c/\ ∀(j:Nat) (k:Int),it.ks[j]? =some k-> ∃(a:Nat) (y:Itm),k=((b+a:Nat):Int)/\a<g/\L[a]? =some y/\it.c.Kids[j]? =some y.c/\y.M=it.M
theorem aVz.app {b:Nat}{a s:List Itm} (w:aVz b a) (z:aVz (b+a.length) s):aVz b (a++s):=by
 intro g x d;by_cases c:g<a.length;rw [List.getElem?_append_left c]at d;obtain⟨e,a0,a2⟩:=w g x d;refine⟨e,a0,λj k h=>?_⟩;obtain⟨i,y,n,u,o,p,q⟩:=a2 j k h;exact⟨i,y,n,u,by rw [List.getElem?_append_left (by omega)];exact o,p,q⟩;rw [List.getElem?_append_right (by omega)]at d;obtain⟨e,a0,a2⟩:=z _ x d;refine⟨e,a0,λj k h=>?_⟩;obtain⟨i,y,n,u,o,p,q⟩:=a2 j k h;exact⟨a.length+i,y,by rw [n];congr 1;omega,by omega,by rw [List.getElem?_append_right (by omega),Nat.add_sub_cancel_left];exact o,p,q⟩
theorem aSk {b:Nat}{L:List It}{M:Mk}{rl:Str->Int}(h:aHh b L)(e: ∀x∈L,aOh x.c):aVz b (L.map (itm M rl)):=by
 intro g _ a;rw [List.getElem?_map,Option.map_eq_some_iff]at a;obtain⟨x,d,rfl⟩:=a;obtain⟨i,a2⟩:=h g x d;refine⟨i,e x (qS d),λj k n=>?_⟩;obtain⟨o,y,p,q,s,u⟩:=a2 j k n;exact⟨o,itm M rl y,p,q,by rw [List.getElem?_map,s];rfl,u,rfl⟩
theorem aLc {p:Cond->Prop}(d: ∀c x:Cond,p c->x∈c.Kids->p x): ∀(cs:List Cond) (b:Nat),(∀c∈cs,p c)-> ∀x∈aG b cs,p x.c
 | [],b,_,x,a=>by rw [aG]at a;simp at a
 |c::cs,b,e,x,a=>by
  rw [aG]at a;rcases mA.1 a with h|h
  ·exact aEy d b c (e c List.mem_cons_self) x h
  ·exact aLc d cs _ (λy i=>e y (List.mem_cons_of_mem _ i)) x h
def aBk (r:Rules)(l:List fA):Nat->Nat->List dF->List Itm
 |_,_,[]=>[]
 |i,b,x::xs=>(kG b x.When).map (itm (MkR r l i) (rlP r))++aBk r l (i+1) (b+(kG b x.When).length) xs
def uD (r:Rules)(l:List fA):List Itm:=(aG 0 (mvC r)).map (itm (MkR r l 0) (rlP r))++aBk r l 0 (cNs (mvC r)) r.Rules
section
variable {r:Rules}{l:List fA}
theorem itmL_B: ∀(xs:List dF) (i b:Nat),(∀(k:Nat) x,xs[k]? =some x->pR r (i+k) x.When)->aVz b (aBk r l i b xs)
 | [],i,b,_=>λg it h=>by rw [aBk]at h;simp at h
 |x::xs,i,b,h=>by
  rw [aBk];have c:=h 0 x rfl;refine(aSk (aRa b x.When) (λy a=>aVq (aEy aXe b x.When c y a).1)).app ?_;rw [List.length_map];exact itmL_B xs (i+1) _ λk y a=>by rw [show i+1+k=i+(k+1)by omega];exact h (k+1) y (by simpa using a)
theorem bAb: ∀(xs:List dF) (i b:Nat),(aBk r l i b xs).map (λy=>(⟨y.c,y.ks⟩:It))=aG b (xs.map dF.When)
 | [],_,_=>rfl
 |x::xs,i,b=>by
  rw [aBk,List.map_append,bAb xs,List.map_cons,aG,List.map_map]
  congr 1
  exact List.map_id _
theorem bBl: ∀(xs:List dF) (i b:Nat),∀y∈aBk r l i b xs,y.rule=if y.c.Kind=7 then rlP r y.c.Name else 0
 | [],_,_,y,h=>by rw [aBk]at h;simp at h
 |x::xs,i,b,y,h=>by
  rw [aBk]at h;rcases mA.1 h with h|h
  ·obtain⟨z,a,rfl⟩:=List.mem_map.1 h;rfl
  ·exact bBl xs _ _ y h
theorem aZc: ∀y∈uD r l,y.rule=if y.c.Kind=7 then rlP r y.c.Name else 0:=λy h=>by
 unfold uD at h;rcases mA.1 h with h|h
 ·obtain⟨_,_,rfl⟩:=List.mem_map.1 h;rfl
 ·exact bBl _ _ _ y h
theorem aRn:(uD r l).map (λy=>(⟨y.c,y.ks⟩:It))=aG 0 (mvC r)++aG (cNs (mvC r)) (rlC r):=by
 unfold uD;rw [List.map_append,bAb,List.map_map];congr 1;exact List.map_id _
theorem aSp:(uD r l).length=cNs (mvC r)+cNs (rlC r):=by
 have h:=congrArg List.length (aRn (r:=r) (l:=l));rw [List.length_map,List.length_append,mD,mD]at h;exact h
theorem bBs (h:GB r l):aSt (uD r l):=by
 have q:aVz 0 (uD r l):=by
  unfold uD;refine(aSk (aZp _ 0) (λy e=>aVq (aLc aWy (mvC r) 0 (λc i=>by obtain⟨m,hm,rfl⟩:=List.mem_map.1 i;exact pM_of h hm) y e).1)).app ?_;rw [List.length_map,mD,Nat.zero_add];exact itmL_B _ 0 _ λk _ n=>by rw [Nat.zero_add];exact pR_of h n
 intro g it d;obtain⟨a,b,c⟩:=q g it d;refine⟨a,b,λj k o=>?_⟩;obtain⟨p,y,s,u⟩:=c j k o;exact⟨p,y,by rw [s,Nat.zero_add],u⟩
theorem aVv: ∀(xs:List dF) (i b:Nat),(∀(k:Nat) x,xs[k]? =some x->pR r (i+k) x.When)-> ∀(g:Nat) it,(aBk r l i b xs)[g]? =some it-> ∃k,k<xs.length/\it.M=MkR r l (i+k)/\pR r (i+k) it.c/\
  ∀(j:Nat) y,j<k->xs[j]? =some y-> ∃(q:Nat) (z:Itm),(aX b (xs.map dF.When))[j]? =some ((b+q:Nat):Int)/\q<g/\(aBk r l i b xs)[q]? =some z/\z.c=y.When/\z.M=MkR r l (i+j)
 | [],i,b,_,g,it,h=>by rw [aBk]at h;simp at h
 |x::xs,i,b,h,g,it,d=>by
  rw [aBk]at d⊢;have s:=h 0 x rfl;have E:=aFt b x.When;have a:((kG b x.When).map (itm (MkR r l i) (rlP r))).length=(kG b x.When).length:=List.length_map _
  by_cases c:g<(kG b x.When).length
  ·rw [List.getElem?_append_left (by rw [a];exact c),List.getElem?_map,Option.map_eq_some_iff]at d;obtain⟨y,e,rfl⟩:=d;exact⟨0,by simp,rfl,aEy aXe b x.When s y (qS e),λj y n=>absurd n (Nat.not_lt_zero _)⟩
  ·rw [List.getElem?_append_right (by rw [a];omega),a]at d;obtain⟨k,_,o,p,u⟩:=aVv xs (i+1) (b+(kG b x.When).length) (λk y e=>by rw [show i+1+k=i+(k+1)by omega];exact h (k+1) y (by simpa using e)) _ it d;have w:i+1+k=i+(k+1):=by omega
   rw [w]at o p;refine⟨k+1,by simp;omega,o,p,λj y n e=>?_⟩
   cases j with
   |zero=>
    obtain rfl:x=y:=by simpa using e
    refine⟨(kG b x.When).length-1,itm (MkR r l i) (rlP r) ⟨x.When,(dP b x.When.Kids).2⟩,?_,by omega,?_,rfl,rfl⟩
    ·rw [List.map_cons,aX,List.getElem?_cons_zero];congr 2;omega
    ·rw [List.getElem?_append_left (by rw [a];omega),List.getElem?_map,aCw];rfl
   |succ j=>
    obtain⟨q,z,A,_,B,C,D⟩:=u j y (by omega) (by simpa using e);refine⟨(kG b x.When).length+q,z,?_,by omega,?_,C,by rw [D];congr 1;omega⟩
    ·rw [List.map_cons,aX,List.getElem?_cons_succ,A];congr 2;omega
    ·rw [List.getElem?_append_right (by rw [a];omega),a,Nat.add_sub_cancel_left];exact B
theorem aOj: ∀(xs:List dF) (i b j:Nat) (y:dF),xs[j]? =some y-> ∃(q:Nat) (z:Itm),(aX b (xs.map dF.When))[j]? =some ((b+q:Nat):Int)/\(aBk r l i b xs)[q]? =some z/\z.c=y.When/\z.M=MkR r l (i+j)
 | [],_,_,j,y,h=>by simp at h
 |x::xs,i,b,0,y,h=>by
  obtain rfl:x=y:=by simpa using h
  have o:=aFt b x.When;have a:((kG b x.When).map (itm (MkR r l i) (rlP r))).length=(kG b x.When).length:=List.length_map _;refine⟨(kG b x.When).length-1,itm (MkR r l i) (rlP r) ⟨x.When,(dP b x.When.Kids).2⟩,?_,?_,rfl,rfl⟩
  ·rw [List.map_cons,aX,List.getElem?_cons_zero];congr 2;omega
  ·rw [aBk,List.getElem?_append_left (by rw [a];omega),List.getElem?_map,aCw];rfl
 |x::xs,i,b,j+1,y,h=>by
  have a:((kG b x.When).map (itm (MkR r l i) (rlP r))).length=(kG b x.When).length:=List.length_map _;obtain⟨q,z,d,e,k,n⟩:=aOj xs (i+1) (b+(kG b x.When).length) j y (by simpa using h);refine⟨(kG b x.When).length+q,z,?_,?_,k,by rw [n];congr 1;omega⟩
  ·rw [List.map_cons,aX,List.getElem?_cons_succ,d];congr 2;omega
  ·rw [aBk,List.getElem?_append_right (by rw [a];omega),a,Nat.add_sub_cancel_left];exact e
end
theorem aXd (E:En) (M:Mk): ∀(m:Nat) (c:Cond),dN c<=m->Gt c->ndA E 0 (mkN M c)=mkN M c
 |0,c,h,_=>by have:=uA c;omega
 |m+1,c,h,g=>by
  have b: ∀x∈c.Kids,ndA E 0 (mkN M x)=mkN M x:=λx a=>by
   obtain⟨_,i⟩:=List.getElem?_of_mem a;exact aXd E M m x (by have:=(uC g.ok i).2.1;omega) (g.kid a)
  have gk:=g.gk;have k:=g.self;have d:aGp E 0 (c.Kids.map (mkN M))=c.Kids.map (mkN M):=by
   rw [aVe,List.map_map];exact List.map_congr_left λx a=>b x a
  rw [mV];rcases kinds k.k1 with e|e|e|e|e|e|e|e|e|e|e|e|e|e|e<;>rw [e]<;>simp only [mkK,Int.reduceEq,if_true,if_false,or_true,true_or,or_self]
  ·rw [ndA]
  ·rw [ndA]
  ·rw [ndA]
  ·rw [ndA]
  ·rw [ndA,win_zero]
  ·rw [ndA]
  ·rw [ndA]
  ·obtain⟨x,a⟩:=jG (gk.o (by omega));rw [a,ndA,List.map_singleton,List.getD_cons_zero,b x (by rw [a];exact List.mem_cons_self)]
  ·rw [ndA,d]
  ·rw [ndA,d]
  ·obtain⟨x,a⟩:=jG (gk.o (by omega));rw [a,ndA,List.map_singleton,List.getD_cons_zero,b x (by rw [a];exact List.mem_cons_self),win_zero]
  ·obtain⟨x,a⟩:=jG (gk.o (by omega));rw [a,ndA,List.map_singleton,List.getD_cons_zero,b x (by rw [a];exact List.mem_cons_self),win_zero]
  ·obtain⟨x,a⟩:=jG (gk.o (by omega));rw [a,ndA,List.map_singleton,List.getD_cons_zero,b x (by rw [a];exact List.mem_cons_self),win_zero]
  ·obtain⟨x,y,a⟩:=aFd (gk.t e);rw [a];show ndA E 0 (.since (mkN M x) (mkN M y) 0 false)= .since (mkN M x) (mkN M y) 0 false;rw [ndA,b x (by rw [a];simp),b y (by rw [a];simp)];rfl
  ·obtain⟨x,a⟩:=jG (gk.o (by omega));rw [a,List.map_singleton,List.getD_cons_zero,ndA,b x (by rw [a];exact List.mem_cons_self)];rfl
theorem aRr {r:Rules}{l:List fA} (h:GB r l) (f:Nat->List fG):NewA f (dL r l):=by
 have g:=h.g;refine⟨λx a=>?_,λk b=>?_⟩
 ·obtain⟨m,hm,rfl⟩:=List.mem_map.1 a;exact aXd _ _ _ m.When (Nat.le_refl _) (g.mg m hm).1
 ·obtain⟨i,hi⟩:=List.getElem?_of_mem b;change (r.Rules.mapIdx (rlN r l))[i]? =some k at hi;rw [List.getElem?_mapIdx,Option.map_eq_some_iff]at hi;obtain⟨x,a,rfl⟩:=hi;exact aXd _ _ _ x.When (Nat.le_refl _) (g.lg x (qS a)).1
structure FrI (l:List fA)(f:Nat->List fG):Prop where
 len: ∀t,(f t).length=l.length
 bd: ∀t x,x∈f t-> -1125899906842624<=x.N/\x.N<=1125899906842624
section
variable {r:Rules}{l:List fA}{f:Nat->List fG}{t:Nat}
theorem aZw (h:GB r l)(a:FrI l f)(t:Nat):((EnW f (dL r l)).ps t).length=r.Phases.length:=by
 rw [ps_A (aCr h) a.len (aRr h f),aKf,List.length_replicate]
theorem rlE_rng (h:GB r l)(a:FrI l f)(t:Nat): ∀x∈(EnW f (dL r l)).rl t,0<=x/\x<=2:=(aQq (aIh (aCr h) a.len t) (a.len t)).2.2.1
theorem aZz (h:GB r l)(o:FrI l f){R:Nat}(k:Nd)(j:wfN l.length r.Phases.length R k)(t:Nat):0<=den (EnW f (dL r l)) k t/\den (EnW f (dL r l)) k t<=2:=by
 have g:=h.g
 cases k with
 |constant c=>rw [wfN]at j;rw [den];exact j
 |number tr op n=>
  rw [wfN]at j;rw [den];dsimp only;unfold aRh;obtain⟨y,e,q⟩:=aNs (m:=(EnW f (dL r l)).m t) (tr:=tr) (op:=op) (n:=n) ⟨j.1,by show tr<((f t).length:Int);rw [o.len];exact j.2⟩;rw [e];exact q
 |pair a b da db op=>
  rw [wfN]at j;rw [den];dsimp only;unfold pairT;obtain⟨y,e,q⟩:=bAu (m:=(EnW f (dL r l)).m t) (a:=a) (b:=b) (da:=da) (db:=db) (op:=op) ⟨⟨j.1.1,by show a<((f t).length:Int);rw [o.len];exact j.1.2⟩,j.2.1,by show b<((f t).length:Int);rw [o.len];exact j.2.2⟩;rw [e];exact q
 |steady tr n fr _=>
  rw [den];dsimp only;unfold stT;split
  ·omega
  ·split<;>omega
 |phase p=>
  rw [wfN]at j;rw [den];dsimp only;unfold uB;have u:=aZw h o t;obtain⟨y,e,q⟩:=aVc (m:=(EnW f (dL r l)).m t) (p:=p) ⟨j.1,by show p<(((EnW f (dL r l)).ps t).length:Int);rw [u];exact j.2⟩ (by show((EnW f (dL r l)).ps t).length<=_;rw [u];have:=g.p;omega);rw [e];exact q
 |rule i=>
  rw [den];dsimp only;unfold aHj
  cases e:at' ((EnW f (dL r l)).m t).rules i with
  |none=>exact⟨by decide,by decide⟩
  |some y=>
   have m:y∈(EnW f (dL r l)).rl t:=by
    unfold at' at e;split at e
    ·exact qS e
    ·exact absurd e (by simp)
   exact rlE_rng h o t y m
 |not k=>rw [den];exact bBb _
 |group _ s=>rw [den];cases s<;>exact aSe (by decide) _ _ (by decide)
 |count k n fr a b=>rw [den];exact aUq _ _ _
 |since a b c _=>
  rw [den]
  cases t with
  |zero=>rw [aEb];exact aAk _ _ _
  |succ t=>rw [aEb];exact aAk _ _ _
 |rises k a b=>rw [den];exact aJn _ _
theorem wf_M (h:GB r l){c:Cond}(a:pM r c):wfN l.length r.Phases.length 0 (mkN (MkR r l 0) c):=by
 refine aLl (MkR r l 0) pMv (λc a=>?_) (dN c) c (Nat.le_refl _) a.1 (λs b=>aKs (h.n s (a.2.2 s b))) a.2.1;unfold pMv at a;constructor<;>(intro e;rw [e]at a;simp at a)
theorem wf_R (h:GB r l){i:Nat}{c:Cond}(a:pR r i c):wfN l.length r.Phases.length i (mkN (MkR r l i) c):=by
 refine aLl (MkR r l i) (pRl r i) (λc a=>?_) (dN c) c (Nat.le_refl _) a.1 (λs b=>aKs (h.n s (a.2.2 s b))) a.2.1;obtain⟨d,k⟩:=aEx i a;refine⟨λe=>aWg h (d e),λe=>?_⟩;obtain⟨_,_,-,o,_,-⟩:=ru_at (l:=l) (k e);rw [o];omega
theorem itms_M (h:GB r l){n:Nat}{it:Itm}(b:n<cNs (mvC r))(a:(uD r l)[n]? =some it):it.M=MkR r l 0/\pM r it.c:=by
 unfold uD at a;rw [List.getElem?_append_left (by rw [List.length_map,mD];exact b),List.getElem?_map,Option.map_eq_some_iff]at a;obtain⟨y,d,rfl⟩:=a;exact⟨rfl,aLc aWy (mvC r) 0 (λc e=>by obtain⟨m,hm,rfl⟩:=List.mem_map.1 e;exact pM_of h hm) y (qS d)⟩
theorem itms_R (h:GB r l){n:Nat}{it:Itm}(p:cNs (mvC r)<=n)(d:(uD r l)[n]? =some it): ∃k,k<r.Rules.length/\it.M=MkR r l k/\pR r k it.c/\
    ∀(j:Nat) y,j<k->r.Rules[j]? =some y-> ∃(q:Nat) (z:Itm),(aX (cNs (mvC r)) (rlC r))[j]? =some (q:Int)/\q<n/\(uD r l)[q]? =some z/\z.c=y.When/\z.M=MkR r l j:=by
 have a:((aG 0 (mvC r)).map (itm (MkR r l 0) (rlP r))).length=cNs (mvC r):=by rw [List.length_map,mD]
 have b:=d;unfold uD at b;rw [List.getElem?_append_right (by rw [a];exact p),a]at b;obtain⟨k,s,e,i,u⟩:=aVv r.Rules 0 _ (λk _ w=>by rw [Nat.zero_add];exact pR_of h w) _ it b;rw [Nat.zero_add]at e i;refine⟨k,s,e,i,λj y A B=>?_⟩;obtain⟨q,z,C,_,D,E,o⟩:=u j y A B;rw [Nat.zero_add]at o;refine⟨cNs (mvC r)+q,z,C,by omega,?_,E,o⟩;unfold uD;rw [List.getElem?_append_right (by rw [a];omega),a,Nat.add_sub_cancel_left];exact D
theorem itms_rng (h:GB r l) (e:FrI l f): ∀it∈uD r l,∀s,0<=den (EnW f (dL r l)) (mkN it.M it.c) s/\den (EnW f (dL r l)) (mkN it.M it.c) s<=2:=λit d s=>by
 obtain⟨n,i⟩:=List.getElem?_of_mem d
 by_cases c:n<cNs (mvC r)
 ·obtain⟨a,b⟩:=itms_M h c i;rw [a];exact aZz h e _ (wf_M h b) s
 ·obtain⟨_,-,a,b,-⟩:=itms_R h (by omega) i;rw [a];exact aZz h e _ (wf_R h b) s
theorem at_eq6 (h:GB r l)(c:FrI l f){v:gG}(d:v.names=l.map fA.Name)(hd:v.dens=qY l)(e:v.told=f t){s:Str}(j:s∈mZ r)(i:Nat):
  Faf v s=some ((EnW f (dL r l)).tk ((MkR r l i).tr s) t,(MkR r l i).dn ((MkR r l i).tr s))/\at' ((EnW f (dL r l)).told t) ((MkR r l i).tr s)=some ((EnW f (dL r l)).tk ((MkR r l i).tr s) t):=by
 have hm:=h.n s j;have b:=aKs hm;have k:=aOf (l.map fA.Name) s (by rw [List.length_map];have:=h.t.n;omega) hm;obtain⟨_,o⟩:=vM (l:=f t) (i:=trI l s) (by rw [c.len];exact b);have a2:at' ((EnW f (dL r l)).told t) ((MkR r l i).tr s)=some ((EnW f (dL r l)).tk ((MkR r l i).tr s) t):=by
  unfold En.tk;show at' (f t) (trI l s)=some ((at' (f t) (trI l s)).getD _);rw [o];rfl
 refine⟨?_,a2⟩;have a:at' (f t) (trI l s)=some ((EnW f (dL r l)).tk ((MkR r l i).tr s) t):=a2;have a3:at' (qY l) (trI l s)=some ((MkR r l i).dn ((MkR r l i).tr s)):=at_D (by unfold qY;rw [List.length_map];exact b);unfold Faf;rw [d,hd,e,k,zC];show gB (at' (f t) (trI l s)) _=_;rw [a,zC];show gB (at' (qY l) (trI l s)) _=_;rw [a3,zC]
theorem tk_bd (b:FrI l f)(w:fF)(tr:Int)(s:Nat): -1125899906842624<=((EnW f w).tk tr s).N/\((EnW f w).tk tr s).N<=1125899906842624:=by
 unfold En.tk
 cases e:at' ((EnW f w).told s) tr with
 |none=>exact⟨by decide,by decide⟩
 |some y=>
  have m:y∈f s:=by
   have a:at' (f s) tr=some y:=e;unfold at' at a;split at a
   ·exact qS a
   ·exact absurd a (by simp)
  exact b.bd s y m
theorem aUr (h:GB r l) (a:FrI l f) {v:gG} (d:v.names=l.map fA.Name) (hd:v.dens=qY l) (e:v.told=f t) (b:v.frames=(t:Int)) (j:t<=1000000000) {i:Nat}{c:Cond}{x:gI} (n: ∀s∈kF c,s∈mZ r)
  (ph:c.Kind=6->v.phase=(EnW f (dL r l)).ps t/\v.phase.length<=2000000/\Fac v.r.Phases c.Name=some ((MkR r l i).ph c.Name)/\0<=(MkR r l i).ph c.Name/\(MkR r l i).ph c.Name<v.phase.length)
  (rl:c.Kind=7-> ∃y,at' v.nodes x.rule=some y/\at' ((EnW f (dL r l)).rl t) ((MkR r l i).rl c.Name)=some y.now):Looks (EnW f (dL r l)) (MkR r l i) t c x v:=by
 have nm: ∀s∈nm1 c,s∈mZ r:=λs o=>n s (by rw [aAq,mA];exact .inl o)
 refine⟨b,j,λk=>at_eq6 h a d hd e (nm _ ?_) i,λk=>at_eq6 h a d hd e (nm _ ?_) i,λtr s=>tk_bd a _ tr s,ph,rl⟩
 ·unfold nm1;rcases k with k|k|k<;>simp [k]
 ·unfold nm1;simp [k]
end
structure EvI (r:Rules)(l:List fA)(f:Nat->List fG)(t:Nat)(v:gG):Prop where
 rs:v.r=r
 names:v.names=l.map fA.Name
 dens:v.dens=qY l
 frames:v.frames=(t:Int)
 phase:v.phase=psB (EnW f (dL r l)) (dL r l) t
 nd:tY (EnW f (dL r l)) (uD r l) v.nodes 0 t
 first:v.first=((cNs (mvC r):Nat):Int)
 moves:v.moves=aX 0 (mvC r)
 rules:v.rules=aX (cNs (mvC r)) (rlC r)
section
variable {r:Rules}{l:List fA}{f:Nat->List fG}{t:Nat}{v:gG}
theorem evI_zero (h:GB r l) (f:Nat->List fG):EvI r l f 0 (ev0 r l):=by
 refine⟨rfl,rfl,rfl,rfl,rfl,⟨?_,λg it a=>?_⟩,rfl,rfl,rfl⟩;show(List.map _ _).length=_;rw [List.length_map,<-aRn (l:=l),List.length_map];have hi:=(bBs h g it a).2.1;have e:(aG 0 (mvC r)++aG (cNs (mvC r)) (rlC r))[g]? =some ⟨it.c,it.ks⟩:=by rw [<-aRn (l:=l),List.getElem?_map,a];rfl
 refine⟨aW (rlP r) ⟨it.c,it.ks⟩,?_,?_,?_⟩;show(List.map _ _)[g]? =_;rw [List.getElem?_map,e];rfl;rw [if_neg (Nat.not_lt_zero _)];exact node0_I (it:=⟨it.c,it.ks⟩) hi;rw [aZc it (qS a)];rfl
theorem rlE_at (h:GB r l)(a:FrI l f){j:Nat}{y:dF}(b:r.Rules[j]? =some y)(t:Nat):at' ((EnW f (dL r l)).rl t) (j:Int)=some (den (EnW f (dL r l)) (mkN (MkR r l j) y.When) t):=by
 rw [rl_A (aCr h) a.len (aRr h f) t,qF,List.getElem?_map];show Option.map _ ((r.Rules.mapIdx (rlN r l))[j]?)=_;rw [List.getElem?_mapIdx,b];rfl
theorem look_R (h:GB r l) (d:FrI l f) (b:EvI r l f t v) (B:t<=1000000000) {n:Nat}{ns:List gI}{it:Itm}{x:gI} (C:cNs (mvC r)<=n) (D:tY (EnW f (dL r l)) (uD r l) ns n t) (a:(uD r l)[n]? =some it) (i:x.rule=it.rule):
    Looks (EnW f (dL r l)) it.M t it.c x (wN v (f t) ((EnW f (dL r l)).ps t) ns):=by
 obtain⟨k,_,E,o,F⟩:=itms_R h C a;have g:=h.g;obtain⟨m1,m2⟩:=aEx k (aEo o.2.1);have s:=aZw h d t;rw [E];refine aUr (v:=wN v (f t) ((EnW f (dL r l)).ps t) ns) h d b.names b.dens rfl b.frames B o.2.2 (λe=>?_) λe=>?_;obtain⟨p1,u,-⟩:=ph_at g.p g.pd (m1 e);refine⟨rfl,by show((EnW f (dL r l)).ps t).length<=_;rw [s];have:=g.p;omega,?_,u.1,?_⟩;show Fac v.r.Phases _=_;rw [b.rs];exact p1;show aBc r.Phases it.c.Name<(((EnW f (dL r l)).ps t).length:Int);rw [s];exact u.2;obtain⟨j,y,_,_,a2,a3,a4,a5,G,-⟩:=rlP_at (l:=l) (m2 e);obtain⟨_,_,A,H,I,J,K⟩:=F j y a3 a4;obtain⟨w,L,N⟩:=D.now (v:=wN v (f t) ((EnW f (dL r l)).ps t) ns) I H;refine⟨w,?_,?_⟩;rw [i,aZc it (qS a),if_pos e,G];rw [a5]at A;rw [oI A];exact xG L;rw [a2,rlE_at h d a4 t,N,J,K]
theorem look_M (h:GB r l)(i:FrI l f)(a:EvI r l f t v)(j:t<=1000000000){n:Nat}{ns:List gI}{it:Itm}{x:gI}{ph:List Bool}(k:n<cNs (mvC r))(b:(uD r l)[n]? =some it):
    Looks (EnW f (dL r l)) it.M t it.c x (wN v (f t) ph ns):=by
 obtain⟨o,d⟩:=itms_M h k b;obtain⟨p,q⟩:=pMv_no d.2.1;rw [o];exact aUr (v:=wN v (f t) ph ns) h i a.names a.dens rfl a.frames j d.2.2 (λe=>absurd e p) λe=>absurd e q
theorem moved_6 (h:GB r l) (e:FrI l f) (a:EvI r l f t v) {ns:List gI} (B:tY (EnW f (dL r l)) (uD r l) ns (cNs (mvC r)) t):
  Fa1 (wN v (f t) v.phase ns) v.phase=some ((EnW f (dL r l)).ps t):=by
 have g:=h.g;have L:=g.p;rw [ps_A (aCr h) e.len (aRr h f) t,a.phase];have j:((dL r l).moves.map λx=>(x,den (EnW f (dL r l)) x.when t)).length=r.Moves.length:=by
  rw [List.length_map];show(r.Moves.map (mvN r l)).length=_;rw [List.length_map]
 refine moved_ok6 (v:=wN v (f t) (psB (EnW f (dL r l)) (dL r l) t) ns) (zs:=(dL r l).moves.map λx=>(x,den (EnW f (dL r l)) x.when t)) (P:=r.Phases.length) ⟨?_,?_,?_,λk _ n=>?_⟩ _ ?_ (by omega)
 ·show v.r.Moves.length=_;rw [a.rs,j]
 ·rw [j];have:=g.m;omega
 ·show v.r.Phases.length=_;rw [a.rs]
 ·rw [List.getElem?_map,Option.map_eq_some_iff]at n;obtain⟨x,b,rfl⟩:=n;change (r.Moves.map (mvN r l))[k]? =some x at b;rw [List.getElem?_map,Option.map_eq_some_iff]at b;obtain⟨m,hm,rfl⟩:=b;have C:=qS hm;obtain⟨f1,f2,-⟩:=mv_ok h.c C;obtain⟨q,y,o,u,D⟩:=aVp (mvC r) 0 k m.When (by unfold mvC;rw [List.getElem?_map,hm];rfl);rw [Nat.zero_add]at o;have A:q<cNs (mvC r):=by have:=(gS.1 u).1;rwa [mD]at this
  have E:(uD r l)[q]? =some (itm (MkR r l 0) (rlP r) y):=by
   unfold uD;rw [List.getElem?_append_left (by rw [List.length_map,mD];exact A),List.getElem?_map,u];rfl
  obtain⟨w,F,G⟩:=B.now (v:=wN v (f t) v.phase ns) E A;obtain⟨p1,_,H⟩:=ph_at g.p g.pd f1;obtain⟨I,J,-⟩:=ph_at g.p g.pd f2;refine⟨m,(q:Int),w,?_,?_,xG F,?_,?_,J,λi s K=>?_⟩
  ·show v.r.Moves[k]? =_;rw [a.rs];exact hm
  ·show at' v.moves (k:Int)=_;rw [a.moves,qF];exact o
  ·rw [G];show den _ (mkN (MkR r l 0) y.c) t=den _ (mkN (MkR r l 0) m.When) t;rw [D]
  ·show Fac v.r.Phases m.To=_;rw [a.rs];exact I
  ·refine H i s ?_;have d:v.r.Phases[i]? =some s:=K;rwa [a.rs]at d
 ·rw [<-bBf];exact(aIh (aCr h) e.len t).po
theorem next_6 (h:GB r l) (e:FrI l f) (a:EvI r l f t v) (i:t<=1000000000): ∃d,Fbb v (f t)=some d/\EvI r l f (t+1) d/\d.phase=(EnW f (dL r l)).ps t/\d.told=f t/\
  ∀(j:Nat) y,r.Rules[j]? =some y-> ∃k x,at' d.rules (j:Int)=some k/\at' d.nodes k=some x/\at' ((EnW f (dL r l)).rl t) (j:Int)=some x.now:=by
 have B:=bBs h;have K:(uD r l).length<=24000:=by rw [aSp];have:=mv_cN h;have:=rl_cN h;omega
 obtain⟨ns,C,u⟩:=frame6_ok (E:=EnW f (dL r l)) (told:=f t) B a.nd a.first (by rw [aSp];omega) (by omega) (itms_rng h e) a.frames i
  (λn ns it x o _ c _ _=>look_M h e a i o c)
  (λn ns it x o p c _ s=>look_R h e a i o p c s)
  (λns p=>moved_6 h e a p)
 refine⟨_,C,⟨a.rs,a.names,a.dens,rfl,rfl,u,a.first,a.moves,a.rules⟩,rfl,rfl,λj y w=>?_⟩;obtain⟨q,z,D,F,G,H⟩:=aOj (r:=r) (l:=l) r.Rules 0 (cNs (mvC r)) j y w;have I:(uD r l)[cNs (mvC r)+q]? =some z:=by
  have b:((aG 0 (mvC r)).map (itm (MkR r l 0) (rlP r))).length=cNs (mvC r):=by rw [List.length_map,mD]
  unfold uD;rw [List.getElem?_append_right (by rw [b];omega),b,Nat.add_sub_cancel_left];exact F
 obtain⟨x,J,A,-⟩:=u.nd _ z I;rw [if_neg (Nat.not_lt_zero _)]at A;refine⟨((cNs (mvC r)+q:Nat):Int),x,?_,xG J,?_⟩
 ·show at' v.rules (j:Int)=_;rw [a.rules,qF];exact D
 ·rw [rlE_at h e w t,A.now,G,H,Nat.zero_add];rfl
end
def tel (l:List fA)(a:Int)(k:Nat):List fG:=l.map (inT (a+(k:Int)))
theorem aPv (l:List fA)(a:Int)(k:Nat):(tel l a k).length=l.length:=by unfold tel;rw [List.length_map]
def spn (a b:Int):Nat:=(b-a+1).toNat
def cols (m:Nat)(rows:List (List Int)):List (List Int):=(List.range m).map λi=>rows.map λrow=>row.getD i 0
theorem aBv {m:Nat}{rows:List (List Int)}{i:Nat}(h:i<m):(cols m rows)[i]? =some (rows.map λrow=>row.getD i 0):=by
 unfold cols;rw [List.getElem?_map,List.getElem?_range h];rfl
theorem nP (m:Nat)(rows:List (List Int)):(cols m rows).length=m:=by unfold cols;simp
theorem EvL_ok (v:List Int) (ph:List Str) (m:Nat) (rows:List (List Int)) (d:v.length=m) (hm:m<=1000) (j:rows.length<=100000):Fcv v ph (cols m rows)=some (cols m (rows++[v])):=by
 unfold Fcv Fib;rw [zI];have e: ∀i,i<m->(cols m (rows++[v])).take i++(cols m rows).drop i=(cols m (rows++[v])).take i++(rows.map λrow=>row.getD i 0)::(cols m rows).drop (i+1):=λi hi=>by
  rw [List.drop_eq_getElem_cons (by rw [nP];exact hi)];have:=aBv (rows:=rows) hi;rw [gE (by rw [nP];exact hi)]at this;rw [oI this]
 refine(bT (λ(i:Nat)=>((i:Int),(cols m (rows++[v])).take i++(cols m rows).drop i)) v (some (cols m (rows++[v]))) (by omega) ?_ ?_)
 ·intro k i x c hi;have a:((cols m (rows++[v])).take i).length=i:=by rw [List.length_take,nP];omega
  have b:v.getD i 0=x:=by rw [List.getD_eq_getElem?_getD,c];rfl
  have h:(cols m (rows++[v]))[i]? =some ((rows.map λrow=>row.getD i 0)++[x]):=by
   rw [aBv (by omega),List.map_append,List.map_singleton,b]
  simp only [zI];rw [xB hi,zV,xG c,e i (by omega),aKw _ _ _ i a];simp only [zC];rw [ap8 (by rw [List.length_map];omega),zC,aJr _ _ _ _ i a,zC,eY hi (by omega),tJ h,List.append_assoc];rfl
 ·intro k;simp only [zI];rw [d,xC,zQ,List.take_of_length_le (by rw [nP];exact Nat.le_refl _),List.drop_eq_nil_of_le (by rw [nP];exact Nat.le_refl _),List.append_nil]
theorem frame_ok {r:Rules}{l:List fA}(h:GB r l){a:Int}(k:Nat)(p:0<=a)(q:a+k<=4194303):
  Fby l (a+(k:Int))=some (tel l a k)/\Fbl (runT (tel l a) (dL r l) k).2 (tel l a k)=some (nxt (tel l a k) (runT (tel l a) (dL r l) k).2)/\
  Fbp (nxt (tel l a k) (runT (tel l a) (dL r l) k).2).2=some (phL (runT (tel l a) (dL r l) (k+1)).2.possible r.Phases):=by
 have c:=aCr h;have d:=aIh (f:=tel l a) c (aPv l a) k;obtain⟨i,j,_,_⟩:=aQq d (aPv l a k);refine⟨inputs_eq l _ h.t (by omega) (by omega),i,?_⟩;rw [Phase_eq j];have e: ∀n,(runT (tel l a) (dL r l) n).2.phases=r.Phases:=by
  intro n
  induction n with
  |zero=>rfl
  |succ n o=>exact o
 have b:=e (k+1);change (nxt (tel l a k) (runT (tel l a) (dL r l) k).2).2.phases=_ at b;rw [b];rfl
theorem aWv {r:Rules}{l:List fA}(f:Nat->List fG): ∀n,(runT f (dL r l) n).2.rules.length=r.Rules.length
 |0=>by show(r.Rules.mapIdx _).length=_;simp
 |n+1=>by
  show(nxt (f n) (runT f (dL r l) n).2).2.rules.length=_;rw [(aEz _ _).2,aWv f n]
theorem span_bind (a b:Int) (K:Bool->Option (Int×List (List Int))):(gB (gK (decide (a<0)) λc=>gB (gQ c (some true) (gK (decide (b<a)) λd=>some d)) λe=>gQ e (some true) (gK (decide (4194304<=b)) λh=>some h)) K)=K (decide (a<0\/b<a\/4194304<=b)):=by
 simp only [zI];by_cases i:a<0;rw [dT i,dT (Or.inl i)];rfl;rw [qD i];by_cases j:b<a;rw [dT j,dT (Or.inr (Or.inl j))];rfl;rw [qD j];by_cases k:4194304<=b;rw [dT k,dT (Or.inr (Or.inr k))];rfl;rw [qD k,qD (by omega)];rfl
theorem aZl {a b:Int}(h:0<=a/\a<=b/\b<=4194303):IntKind.i64.wrap (IntKind.i64.wrap (b-a)+1)=b-a+1:=by
 rw [wrap_i64 (n:=b-a) (by omega) (by omega),wrap_i64 (by omega) (by omega)]
def evV (r:Rules)(l:List fA)(a b:Int):List (List Int):=cols r.Rules.length (runT (tel l a) (dL r l) (spn a b)).1
theorem evalL_ok {r:Rules}{l:List fA} (h:GB r l) {a b:Int} (c:aDa a b=0):
    Fdw l b (a,cols r.Rules.length [],(dL r l).phases,(dL r l).tracks,(dL r l).moves,(dL r l).rules,(dL r l).possible)=some (evV r l a b):=by
 obtain⟨s1,_,_,_⟩:=aSf c;have j:=h.g.l;have n:spn a b=(b-a+1).toNat:=rfl;unfold Fdw;rw [show(a,cols r.Rules.length [],(dL r l).phases,(dL r l).tracks,(dL r l).moves,(dL r l).rules,(dL r l).possible)=(a+((0:Nat):Int),cols r.Rules.length [],(dL r l).phases,(dL r l).tracks,(dL r l).moves,(dL r l).rules,(dL r l).possible)by simp];refine bT (β:=List (List Int)) (γ:=Int×List (List Int)×List Str×Int×List fM×List Nd×List Bool) (λi=>(a+(i:Int),cols r.Rules.length (runT (tel l a) (dL r l) i).1,(runT (tel l a) (dL r l) i).2.phases,(runT (tel l a) (dL r l) i).2.tracks,(runT (tel l a) (dL r l) i).2.moves,(runT (tel l a) (dL r l) i).2.rules,(runT (tel l a) (dL r l) i).2.possible)) (List.replicate (spn a b) ()) (some (evV r l a b)) (by simp;omega) (λk i _ _ hi=>?_) (λk=>?_);rw [List.length_replicate]at hi;obtain⟨f1,f2,f3⟩:=frame_ok h (a:=a) i s1 (by omega);simp only [zI];rw [dT (by omega:a+(i:Int)<=b),zV,f1,zC];show gB (Fbl (runT (tel l a) (dL r l) i).2 (tel l a i)) _=_;rw [f2,zC];show gB (Fbp (nxt (tel l a i) (runT (tel l a) (dL r l) i).2).2) _=_;rw [f3,zC,EvL_ok _ _ _ _ (by rw [(aEz _ _).1,aWv]) (by omega) (by rw [aFe];omega),zC,wrap_i64 (by omega) (by omega)];rw [show a+(i:Int)+1=a+((i+1:Nat):Int)by omega];rfl;rw [List.length_replicate];simp only [zI];rw [qD (by omega: ¬a+((spn a b:Nat):Int)<=b),zQ];rfl
theorem aTx {r:Rules}{l:List fA} (o:okR r) (p:okL rH l) (u:r.Rules.length<=2000000) {a b:Int} (_:i64 a) (_:i64 b):Fc9 r l a b=some (if evE r l a b=0 then(evV r l a b,0)else([],evE r l a b)):=by
 have mk:make' 24 (r.Rules.length:Int) ([]:List Int)=some (cols r.Rules.length []):=by
  unfold make';rw [if_pos ⟨by omega,by omega,by omega⟩,Int.toNat_natCast];unfold cols
  congr 1
  apply List.ext_getElem?;intro i;rw [List.getElem?_replicate,List.getElem?_map]
  by_cases c:i<r.Rules.length
  ·rw [if_pos c,List.getElem?_range c];rfl
  ·rw [if_neg c,List.getElem?_eq_none (by simp;omega)];rfl
 unfold Fc9;simp only [zI];rw [mk,zC];have k: ∃z,Fda r l a b (cols r.Rules.length [])=some (evE r l a b,z)/\(evE r l a b=0->z=evV r l a b):=by
  unfold Fda;rw [aQj o p,zC];simp only [zI];unfold evE
  by_cases z:aDc r l=0
  ·have g:=aZg o z;rw [qD (by simpa using z),zQ,if_neg (by simpa using z)];have sb:=span_bind a b (λn=>gQ n (some (9,cols r.Rules.length [])) (gQ (decide (20000<IntKind.i64.wrap (IntKind.i64.wrap (b-a)+1))) (some (3,cols r.Rules.length [])) (gB (Fci r l) λe=>gB (Fdw l b (a,cols r.Rules.length [],e.phases,e.tracks,e.moves,e.rules,e.possible)) λj=>some (0,j))));simp only [zI]at sb;rw [sb];unfold aDa
   by_cases c:a<0\/b<a\/4194304<=b
   ·rw [dT c,zV,if_pos c];exact⟨_,rfl,λh=>absurd h (by decide)⟩
   ·rw [qD c,zQ,if_neg c,aZl (by omega)]
    by_cases d:20000<b-a+1
    ·rw [dT d,zV,if_pos d];exact⟨_,rfl,λh=>absurd h (by decide)⟩
    ·rw [qD d,zQ,if_neg d,aTr g,zC,evalL_ok g (by unfold aDa;rw [if_neg c,if_neg d]),zC];exact⟨_,rfl,λ_=>rfl⟩
  ·rw [dT (by simpa using z),zV,if_pos (by simpa using z)];exact⟨_,rfl,λh=>absurd h z⟩
 obtain⟨z,q,s⟩:=k;rw [q,zC];simp only []
 by_cases c:evE r l a b=0
 ·rw [s c,c,if_pos rfl];rfl
 ·rw [dT (by simpa using c),zV,if_neg c]
theorem ev_gb {r:Rules}{l:List fA}(d:okR r){a b:Int}(h:evE r l a b=0):GB r l/\aDa a b=0:=by
 unfold evE at h;split at h;rename_i c;exact absurd h c;rename_i c;exact⟨aZg d (by simpa using c),h⟩
theorem aXs (s:Series) (t:Int) (b:Asc s.Samples) (p:s.Samples.length<=20000):
  Ff2 s t (0,(s.Samples.length:Int))=some (kLe s.Samples t:Int):=by
 unfold Ff2 fV;refine bBq (kLe s.Samples t) s.Samples.length _ ?_ ?_ s.Samples.length 0 s.Samples.length FU (by omega) (Nat.zero_le _) (aAs _ _) (Nat.le_refl _) (nM (by omega))
 ·intro k lo hi d e _ _;obtain⟨_,a⟩:=mid_ok d e;have i:IntKind.i64.wrap ((lo:Int)+(hi:Int))=((lo+hi:Nat):Int):=by rw [Go.OB.wrap_i64 (by omega) (by omega)];omega
  have j:quo' .i64 ((lo+hi:Nat):Int) 2=some (((lo+hi)/2:Nat):Int):=by
   unfold quo';rw [if_neg (by omega),Int.tdiv_eq_ediv_of_nonneg (by omega),Go.OB.wrap_i64 (by omega) (by omega)]
   congr 1
  have o:IntKind.i64.wrap ((((lo+hi)/2:Nat):Int)+1)=(((lo+hi)/2+1:Nat):Int):=eY (n:=20000) (by omega) (by omega);simp only [zI,dT (show(lo:Int)<(hi:Int)by omega),zV,i,j,zC,qF,a,o,xP];have q:=aEk b t a
  by_cases c:(lo+hi)/2<kLe s.Samples t
  ·rw [if_pos c,if_pos (q.2 c)]
  ·rw [if_neg c,if_neg (λh=>c (q.1 h))]
 ·intro k;simp only [zI,qD (show¬((kLe s.Samples t:Int)<(kLe s.Samples t:Int))by omega),zQ]
theorem rHeld_eq (s:Series)(t g:Int)(c:Asc s.Samples)(d:s.Samples.length<=20000):Fdp s t g=some (hld s t g):=by
 unfold Fdp hld;have h:=aAs (λx:dC=>decide (x.At<=t)) s.Samples;change kLe s.Samples t<=_ at h;simp only [zI,aXs s t c d,zC];generalize kLe s.Samples t=n at *
 cases n with
 |zero=>rfl
 |succ n=>
  obtain⟨x,i⟩: ∃x,s.Samples[n]? =some x:=⟨_,gE (by omega)⟩;have e:IntKind.i64.wrap (((n+1:Nat):Int)-1)=(n:Int):=by rw [Go.OB.wrap_i64 (by omega) (by omega)];omega
  simp only [qD (show¬(((n+1:Nat):Int)=0)by omega),zQ,e,qF,i,zC,Ffv,zI];generalize decide (3<=x.Mark)=a;generalize decide (g<IntKind.i64.wrap (t-x.At))=b
  cases a<;>cases b<;>rfl
theorem aYa (l:List fA) (n:Int) (h:TK l) (b:0<=n) (c:n<=4194303):Fbr l n=some (l.map (inT n)):=by
 obtain⟨_,d⟩:=aKl h;unfold Fbr Fg0;simp only [zI];rw [show(([]:List fG),(0:Int))=(λ(i:Nat)=>((l.take i).map (inT n),(i:Int))) 0 by simp];rw [bT (λ(i:Nat)=>((l.take i).map (inT n),(i:Int))) l (some (l.map (inT n))) (by omega) ?_ ?_];rfl;intro k i x a hi;obtain⟨g1,g2,g3⟩:=d i x a;simp only [bBi b c];rw [xB hi,zV,xG a,zC,zC,rHeld_eq _ _ _ g1 g2,zC];rw [apT _ _ (by simp;omega),zC,eY hi (by omega),tJ a,List.map_append];rfl;intro k;rw [xC,zQ,List.take_length]
theorem tel_I {l:List fA} (h:TK l) (a:Int):FrI l (tel l a):=by
 refine⟨λt=>aPv l a t,λt _ b=>?_⟩;unfold tel at b;obtain⟨y,d,rfl⟩:=List.mem_map.1 b;obtain⟨i,hi⟩:=List.getElem?_of_mem d;have e:=((bAl y.Series).1 (h.s i y hi)).2.2;show _<=(hld y.Series _ y.Long).1.N/\(hld y.Series _ y.Long).1.N<=_;unfold hld;split;exact⟨by decide,by decide⟩;rename_i n _;split;rename_i z j;split;exact⟨by decide,by decide⟩;have q:=e n z j;unfold aQg at q;split at q;exact absurd q (by decide);rename_i c;simp only [Bool.or_eq_true,Bool.not_eq_true',Bool.and_eq_false_iff,decide_eq_false_iff_not]at c;show _<=z.N/\z.N<=_;omega;exact⟨by decide,by decide⟩
theorem mk_cols (m:Nat)(h:m<=2000000):make' 24 (m:Int) ([]:List Int)=some (cols m []):=by
 unfold make';rw [if_pos ⟨by omega,by omega,by omega⟩,Int.toNat_natCast];unfold cols;congr 1;apply List.ext_getElem?;intro i;rw [List.getElem?_replicate,List.getElem?_map];by_cases c:i<m;rw [if_pos c,List.getElem?_range c];rfl;rw [if_neg c,List.getElem?_eq_none (by simp;omega)];rfl
section
variable {r:Rules}{l:List fA}
theorem truths_L2 (h:GB r l) {v:gG} (rows:List (List Int)) (ts:List Int) (p:rows.length<=100000) (c:ts.length=r.Rules.length)
  (d: ∀(j:Nat) y,r.Rules[j]? =some y-> ∃k x,at' v.rules (j:Int)=some k/\at' v.nodes k=some x/\at' ts (j:Int)=some x.now):
  Fd6 r v (0,cols r.Rules.length rows)=some (v.r.Phases,v.r.Moves,v.r.Rules,v.names,v.dens,v.told,v.frames,v.phase,v.nodes,v.first,v.moves,v.rules,cols r.Rules.length (rows++[ts])):=by
 have hm:=h.g.l;unfold Fd6;have e: ∀i,i<r.Rules.length->(cols r.Rules.length (rows++[ts])).take i++(cols r.Rules.length rows).drop i=(cols r.Rules.length (rows++[ts])).take i++(rows.map λrow=>row.getD i 0)::(cols r.Rules.length rows).drop (i+1):=λi hi=>by
  rw [List.drop_eq_getElem_cons (by rw [nP];exact hi)];have:=aBv (rows:=rows) hi;rw [gE (by rw [nP];exact hi)]at this;rw [oI this]
 refine(bT (λ(i:Nat)=>((i:Int),(cols r.Rules.length (rows++[ts])).take i++(cols r.Rules.length rows).drop i)) r.Rules (some (v.r.Phases,v.r.Moves,v.r.Rules,v.names,v.dens,v.told,v.frames,v.phase,v.nodes,v.first,v.moves,v.rules,cols r.Rules.length (rows++[ts]))) (by omega) ?_ ?_)
 ·intro k i y n hi;obtain⟨_,x,v1,v2,v3⟩:=d i y n;have a:((cols r.Rules.length (rows++[ts])).take i).length=i:=by rw [List.length_take,nP];omega
  rw [qF]at v3;have b:ts.getD i 0=x.now:=by rw [List.getD_eq_getElem?_getD,v3];rfl
  have o:(cols r.Rules.length (rows++[ts]))[i]? =some ((rows.map λrow=>row.getD i 0)++[x.now]):=by
   rw [aBv (by omega),List.map_append,List.map_singleton,b]
  simp only [zI];rw [xB hi,zV,e i (by omega),aKw _ _ _ i a];simp only [zC];rw [v1,zC,v2,zC,ap8 (by rw [List.length_map];omega),zC,aJr _ _ _ _ i a,zC,eY hi (by omega),tJ o,List.append_assoc];rfl
 ·intro k;simp only [zI];rw [xC,zQ,List.take_of_length_le (by rw [nP];exact Nat.le_refl _),List.drop_eq_nil_of_le (by rw [nP];exact Nat.le_refl _),List.append_nil]
theorem aUo (h:GB r l){a:Int}(k:Nat)(b:0<=a)(c:a+k<=4194303):Fbr l (a+(k:Int))=some (tel l a k):=aYa l _ h.t (by omega) (by omega)
theorem truths_L1 (h:GB r l){a b:Int}(M:aDa a b=0):Ffa r l b (a,(ev0 r l).r.Phases,(ev0 r l).r.Moves,(ev0 r l).r.Rules,(ev0 r l).names,(ev0 r l).dens,(ev0 r l).told,(ev0 r l).frames,(ev0 r l).phase,(ev0 r l).nodes,(ev0 r l).first,(ev0 r l).moves,(ev0 r l).rules,cols r.Rules.length [])=some (evV r l a b):=by
 obtain⟨s1,_,_,_⟩:=aSf M;have N:=tel_I h.t a;have hn:spn a b=(b-a+1).toNat:=rfl;unfold Ffa;have q:=kK (body:=λc (s:Int×(List Str)×(List dK)×(List dF)×(List Str)×(List Int)×(List fG)×Int×(List Bool)×(List gI)×Int×(List Int)×(List Int)×(List (List Int)))=>
   gK (decide (s.1<=b)) λd=>
   gQ d
   (gB (gB (Fbr l s.1) λe=>
   gB (Fbb (gG.mk (Rules.mk s.2.1 s.2.2.1 s.2.2.2.1) s.2.2.2.2.1 s.2.2.2.2.2.1 s.2.2.2.2.2.2.1 s.2.2.2.2.2.2.2.1 s.2.2.2.2.2.2.2.2.1 s.2.2.2.2.2.2.2.2.2.1 s.2.2.2.2.2.2.2.2.2.2.1 s.2.2.2.2.2.2.2.2.2.2.2.1 s.2.2.2.2.2.2.2.2.2.2.2.2.1) e) λj=>
   Fd6 r j (0,s.2.2.2.2.2.2.2.2.2.2.2.2.2)) λ⟨k,n,o,p,w,x,y,A,B,C,D,E,F⟩=>
   gK (IntKind.i64.wrap (s.1+1)) λG=>
   c (G,k,n,o,p,w,x,y,A,B,C,D,E,F))
   (some s.2.2.2.2.2.2.2.2.2.2.2.2.2))
  (λ(i:Nat) (s:gG×List (List Int))=>(a+(i:Int),s.1.r.Phases,s.1.r.Moves,s.1.r.Rules,s.1.names,s.1.dens,s.1.told,s.1.frames,s.1.phase,s.1.nodes,s.1.first,s.1.moves,s.1.rules,s.2)) (List.replicate (spn a b) ())
  (λi s=>EvI r l (tel l a) i s.1/\s.2=cols r.Rules.length (runT (tel l a) (dL r l) i).1) (λz=>z=evV r l a b) (by rw [List.length_replicate];omega)
  (λO i s _ P _ H=>by
   have Q:=aQb P;obtain⟨R,i2⟩:=H;obtain⟨I,S,T,_,_,X⟩:=next_6 h N R (by omega);have J:((EnW (tel l a) (dL r l)).rl i).length=r.Rules.length:=by
    show(nxt (tel l a i) (runT (tel l a) (dL r l) i).2).1.length=_;rw [(aEz _ _).1,aWv]
   have t2:=truths_L2 h (v:=I) (runT (tel l a) (dL r l) i).1 ((EnW (tel l a) (dL r l)).rl i) (by rw [aFe];omega) J X;refine⟨(I,cols r.Rules.length (runT (tel l a) (dL r l) (i+1)).1),⟨T,rfl⟩,?_⟩;simp only [zI];rw [dT (by omega:a+(i:Int)<=b),zV,aUo h i s1 (by omega),zC];have K:Fbb (gG.mk (Rules.mk s.1.r.Phases s.1.r.Moves s.1.r.Rules) s.1.names s.1.dens s.1.told s.1.frames s.1.phase s.1.nodes s.1.first s.1.moves s.1.rules) (tel l a i)=some I:=S;rw [K,zC,i2,t2,zC,wrap_i64 (by omega) (by omega),show a+(i:Int)+1=a+((i+1:Nat):Int)by omega];rfl)
  (λO s H=>by
   rw [List.length_replicate]at H⊢;simp only [zI];rw [qD (by omega: ¬a+((spn a b:Nat):Int)<=b),zQ];exact⟨_,rfl,H.2⟩) (ev0 r l,cols r.Rules.length []) ⟨evI_zero h _,rfl⟩
 obtain⟨z,L,Y⟩:=q;rw [Y]at L;rw [show(a,(ev0 r l).r.Phases,(ev0 r l).r.Moves,(ev0 r l).r.Rules,(ev0 r l).names,(ev0 r l).dens,(ev0 r l).told,(ev0 r l).frames,(ev0 r l).phase,(ev0 r l).nodes,(ev0 r l).first,(ev0 r l).moves,(ev0 r l).rules,cols r.Rules.length ([]:List (List Int)))=(a+((0:Nat):Int),(ev0 r l).r.Phases,(ev0 r l).r.Moves,(ev0 r l).r.Rules,(ev0 r l).names,(ev0 r l).dens,(ev0 r l).told,(ev0 r l).frames,(ev0 r l).phase,(ev0 r l).nodes,(ev0 r l).first,(ev0 r l).moves,(ev0 r l).rules,cols r.Rules.length ([]:List (List Int)))by simp];exact L
theorem Truths_eq (h:GB r l){a b:Int}(c:aDa a b=0):Fc0 r l a b=some (evV r l a b):=by
 unfold Fc0;simp only [zI];rw [empty_eq h,zC,mk_cols _ (by have:=h.g.l;omega),zC,truths_L1 h c,zC]
end
theorem lacks_L2 (ns:List Str) (l:List fA) (a:l.length<=9223372036854775807) {i:Nat}{s:Str} (d:ns[i]? =some s):Ff0 ns l (i:Int) (false,0)=some (l.any λt=>decide (t.Name=s)):=by
 unfold Ff0;refine(bT (λ(k:Nat)=>((l.take k).any (λt=>decide (t.Name=s)),(k:Int))) l _ a ?_ ?_);intro e k x b c;have h:l.take (k+1)=l.take k++[x]:=by rw [List.take_add_one,b];rfl
 simp only [zI];rw [xB c,zV,xG b,h,List.any_append,eY c a];cases(l.take k).any (λt=>decide (t.Name=s));rw [zQ,zC,xG d,zC,zC,Bool.false_or];simp;rw [zV,zC,Bool.true_or];intro e;simp only [zI];rw [xC,zQ,List.take_length]
theorem lacks_eq (ns:List Str) (l:List fA) (c:ns.length<=9223372036854775807) (d:l.length<=9223372036854775807):Fd5 ns l=some (if ns.all (λs=>l.any λt=>decide (t.Name=s))=true then 0 else 4):=by
 unfold Fd5;simp only [xU];unfold Fh2;rw [xJ ns (λ_ s=>if (l.any λt=>decide (t.Name=s))=true then none else some (some 4)) (some 0) c ?_ ?_]
 ·have b: ∀(a:List Str) (i:Nat),bC (λ_ s=>if (l.any λt=>decide (t.Name=s))=true then none else some (some (4:Int))) (some 0) a i=some (if a.all (λs=>l.any λt=>decide (t.Name=s))=true then 0 else 4):=by
   intro a
   induction a with
   |nil=>intro i;rfl
   |cons s a e=>
    intro i;rw [bC,List.all_cons]
    cases(l.any λt=>decide (t.Name=s))
    ·rfl
    ·simpa using e (i+1)
  rw [b]
 ·intro h i x j hi;simp only [zI,xU];rw [xB hi,zV,lacks_L2 ns l d j,zC,eY hi c]
  cases(l.any λt=>decide (t.Name=x))<;>rfl
 ·intro h;simp only [zI];rw [xC,zQ]
theorem aMp {r:Rules}{l:List fA} (a:okR r) (b:okL rH l):Fcq r l=some (aDc r l):=by
 obtain⟨e,c⟩:=aJo r;unfold Fcq aDc;rw [rCheck_eq r a,c,zC];simp only [zI,Option.getD_some,xP];by_cases z:e=0;subst z;have g:=aLw a c;rw [if_neg (by simp),if_neg (by simp),aHx l b,aRe,zC];by_cases y:aNc l=0;have h:=aSv g;have d:Fcj r=some (aVs r):=aWz g;rw [if_neg (by simpa using y),if_neg (by simpa using y),d,zC,lacks_eq _ _ (by omega) b.1,zC];rw [if_pos y,if_pos y];rw [if_pos z,if_pos z]
theorem Fault_eq {r:Rules}{l:List fA} (e:okR r) (h:okL rH l) (a b:Int):Fdl r l a b=some (evE r l a b):=by
 unfold Fdl evE;rw [aMp e h,zC];simp only [zI];by_cases z:aDc r l=0;rw [qD (by simpa using z),zQ,if_neg (by simpa using z)];unfold aDa;by_cases a0:a<0;rw [dT a0,zV,zC,zV,zC,zV,if_pos (.inl a0)];rw [qD a0,zQ,zC];by_cases c:b<a;rw [dT c,zV,zC,zV,if_pos (.inr (.inl c))];rw [qD c,zQ,zC];by_cases c0:4194303<b;rw [dT c0,zV,if_pos (.inr (.inr (by omega)))];rw [qD c0,zQ,if_neg (by omega),aZl (by omega)];by_cases d:20000<b-a+1;rw [dT d,zV,if_pos d];rw [qD d,zQ,if_neg d];rw [dT (by simpa using z),zV,if_pos (by simpa using z)]
theorem aRj {r:Rules}{l:List fA} (c:okR r) (d:okL rH l) (a b:Int):Fdk r l a b=some (if evE r l a b=0 then(evV r l a b,0)else([],evE r l a b)):=by
 unfold Fdk;rw [Fault_eq c d,zC];simp only [zI];by_cases z:evE r l a b=0;obtain⟨g,s⟩:=ev_gb c z;rw [qD (by simpa using z),zQ,Truths_eq g s,zC,if_pos z];rw [dT (by simpa using z),zV,if_neg z]
theorem aSy (l:List (List Int)) (e:Int) (o:l.length<=1000) (u: ∀x∈l,x.length<=100000): ∃t,Fbj l e=some t:=by
 unfold Fbj;have a: ∃q,Fcs (gX.mk []) l=some q/\q.out.length<=10000000000:=by
  unfold Fcs;simp only [zI];obtain⟨_,c,d⟩:=aHz (gX.mk []) (l.length:Int) (b:=0) (by simp) (by omega);rw [c,zC];unfold Fia;refine kK (λ(i:Nat) (s:List Int)=>((i:Int),s)) l (λi s=>s.length<=22+i*5000000) (λ(r:gX)=>r.out.length<=10000000000) (by omega) ?_ ?_ _ (by simpa using d)
  ·intro w i s x n hi h;have y:=u x (qS n);have j:i*5000000<=1000*5000000:=Nat.mul_le_mul_right _ (by omega);obtain⟨r,k,z⟩:=ink_Ints (gX.mk s) x (b:=22+i*5000000) (by simpa using h) (by omega);refine⟨r.out,by rw [Nat.succ_mul];omega,?_⟩;simp only [zI];rw [xB hi,zV,xG n,zC,k,zC,eY hi (by omega)]
  ·intro w s h;have j:l.length*5000000<=1000*5000000:=Nat.mul_le_mul_right _ o;simp only [zI];rw [xC,zQ];exact⟨_,rfl,by simpa using(Nat.le_trans h (by omega):s.length<=10000000000)⟩
 obtain⟨q,c,d⟩:=a;obtain⟨_,k,z⟩:=aHz q e d (by omega);rw [c,zC];unfold Ff9 Feu;rw [k];exact⟨_,rfl⟩
theorem evV_lists {r:Rules}{l:List fA}{a b:Int}(d:okR r)(h:evE r l a b=0)(e:Int): ∃t,Fbj (evV r l a b) e=some t:=by
 obtain⟨g,s⟩:=ev_gb d h;obtain⟨_,_,_,_⟩:=aSf s;have o:spn a b=(b-a+1).toNat:=rfl;have p:=g.g.l;have l1:(evV r l a b).length=r.Rules.length:=nP _ _;refine aSy (evV r l a b) e (by omega) λ_ j=>?_;obtain⟨i,hi⟩:=List.getElem?_of_mem j;have c:i<r.Rules.length:=by rw [<-l1];exact(gS.1 hi).1
 unfold evV at hi;rw [aBv c]at hi;obtain rfl:=oI hi;rw [List.length_map,aFe];omega
theorem aWs (r:Rules)(l:List fA)(a b:Int)(j:aPn r)(i:okL rH l)(k:i64 a)(n:i64 b)(o:r.Rules.length<=2000000):Ffw r l a b=some true:=by
 have c:okR r:=j;have d: ∃t,Fbj (if evE r l a b=0 then(evV r l a b,(0:Int))else([],evE r l a b)).1 (if evE r l a b=0 then(evV r l a b,(0:Int))else([],evE r l a b)).2=some t:=by
  by_cases z:evE r l a b=0
  ·rw [if_pos z];exact evV_lists c z 0
  ·rw [if_neg z];exact aSy [] _ (by simp) (by simp)
 obtain⟨t,h⟩:=d;unfold Ffw;rw [aTx c i o k n,zC,aRj c i];generalize (if evE r l a b=0 then(evV r l a b,(0:Int))else([],evE r l a b))=p at *
 obtain⟨_,_⟩:=p;dsimp only at h⊢;rw [h,zC,zC];dsimp only;rw [h,zC];simp only [zI];rw [dT trivial,zV,aXq];rfl
end Go.Lf
