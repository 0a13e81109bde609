/- Laws that the claim stands on; no condition beyond those stated. -/
import Derived.Test.YtibkjjklfhfipabGreatDoorTEa
namespace Go.Lf
open Go.OB
theorem aRq (s:Str): ∀(l:List Str) (i:Nat),s∈l->cZ (λi x=>if decide (x=s)=true then some (some (i:Int))else none) (some (-1)) l i=some (nO (mM l i) s 0)
 | [],_,h=>by simp at h
 |x::l,i,h=>by
  rw [cZ,mM,aCg]
  by_cases c:x=s
  ·rw [if_pos c];simp [c]
  ·rw [if_neg c,<-aRq s l (i+1) ((List.mem_cons.1 h).resolve_left (Ne.symm c))];simp [c]
theorem aOq (l:List Str) (s:Str) (b:l.length<=9223372036854775807) (h:s∈l):Fac l s=some (nO (mM l 0) s 0):=by
 rw [<-aRq s l 0 h];unfold Fac;simp only [xG];unfold Fga;refine xA l _ _ b ?_ ?_;intro k i x c hi;simp only [zG];rw [yP hi,zS,yH c,zA,fP hi b];cases decide (x=s)<;>rfl;intro k;simp only [zG];rw [yO];rfl
theorem idx_zip (l:List Str) (s:Str) (b:l.length<=9223372036854775807) (h:s∈l):wG l s=nO (mM l 0) s 0:=by
 have e:Fai l s=some (nO (mM l 0) s 0):=by
  rw [<-aRq s l 0 h];unfold Fai;simp only [zG,xG];unfold Fer;refine xA l _ _ b ?_ ?_
  ·intro c i x d hi;simp only [zG];rw [yP hi,zS,yH d,zA,fP hi b,decide_eq_decide.2 (eq_comm:s=x↔x=s)]
   cases decide (x=s)<;>rfl
  ·intro c;simp only [zG];rw [yO];rfl
 unfold wG;rw [e];rfl
theorem fo_map {b:Type}(g:b->Str)(s:Str): ∀(l:List b) (i:Nat),cZ (λi x=>if decide (g x=s)=true then some (some (i:Int))else none) (some (-1)) l i=cZ (λi x=>if decide (x=s)=true then some (some (i:Int))else none) (some (-1)) (l.map g) i
 | [],_=>rfl
 |x::l,i=>by
  rw [List.map_cons,cZ,cZ,fo_map g s l (i+1)]
def ruI (r:Rules)(s:Str):Int:=nO (mM (r.Rules.map Rule.Name) 0) s 0
theorem aWi (r:Rules) (s:Str) (b:r.Rules.length<=9223372036854775807) (h:s∈r.Rules.map Rule.Name):Fak r s=some (ruI r s):=by
 unfold ruI;rw [<-aRq s _ 0 h,<-fo_map];unfold Fak;simp only [xG];unfold Fg2;refine xA r.Rules _ _ b ?_ ?_;intro k i x c hi;simp only [zG];rw [yP hi,zS,yH c,zA,fP hi b];cases decide (x.Name=s)<;>rfl;intro k;simp only [zG];rw [yO];rfl
theorem aUk (s:Str): ∀(l:List Str) (i k:Nat),s∈l.take k->nO (mM (l.take k) i) s 0=nO (mM l i) s 0
 | [],i,k,h=>by simp at h
 |x::l,i,0,h=>by simp at h
 |x::l,i,k+1,h=>by
  rw [List.take_succ_cons,mM,mM,aCg,aCg]
  by_cases c:x=s
  ·rw [if_pos c,if_pos c]
  ·rw [if_neg c,if_neg c];exact aUk s l (i+1) k ((List.mem_cons.1 h).resolve_left (Ne.symm c))
theorem ru_at {r:Rules}{l:List gW}{i:Nat}{s:Str}(h:s∈(r.Rules.take i).map Rule.Name): ∃(j:Nat) (x:Rule),ruI r s=(j:Int)/\(MkR r l i).rl s=(j:Int)/\j<i/\r.Rules[j]? =some x/\x.Name=s:=by
 obtain⟨j,b,d⟩:=wH s _ 0 h;have e:(r.Rules.map Rule.Name).take i=(r.Rules.take i).map Rule.Name:=by rw [List.map_take]
 have k:ruI r s=nO (mM ((r.Rules.take i).map Rule.Name) 0) s 0:=by
  unfold ruI;rw [<-e];exact(aUk s _ 0 i (by rw [e];exact h)).symm
 rw [Nat.zero_add]at b;rw [List.getElem?_map,Option.map_eq_some_iff]at d;obtain⟨x,c,n⟩:=d;have o:=(gS.1 c).1;rw [List.length_take]at o;refine⟨j,x,by rw [k];exact b,b,by omega,?_,n⟩;rw [List.getElem?_take_of_lt (by omega)]at c;exact c
theorem aUh {c:Cond}(g:Gt c):aOs c:=by
 have gk:=g.gk;have b:=g.self;refine⟨b.k1,λh=>List.eq_nil_of_length_eq_zero (gk.z h),λh=>bZ (gk.o h),λh=>aBj (gk.t h),λh=>⟨gk.g h,g.kids⟩,λh=>⟨gk.fr h,b.fr.2⟩,b.n,gk.st⟩
theorem bBc {r:Rules} (o:r.Phases.length<=20) (k: ∀(i:Nat) x,r.Phases[i]? =some x->x∉r.Phases.take i) {s:Str} (h:s∈r.Phases):Fac r.Phases s=some (wG r.Phases s)/\(0<=wG r.Phases s/\wG r.Phases s<r.Phases.length)/\ ∀(i:Nat) u,r.Phases[i]? =some u->(s=u↔wG r.Phases s=(i:Int)):=by
 rw [idx_zip _ _ (by omega) h];refine⟨aOq _ _ (by omega) h,?_⟩;obtain⟨j,n,b⟩:=wH s _ 0 h;rw [Nat.zero_add]at n;rw [n];have p:=(gS.1 b).1;refine⟨⟨by omega,by omega⟩,λi u d=>⟨λe=>?_,λe=>?_⟩⟩
 ·subst e;rcases Nat.lt_trichotomy j i with c|c|c
  ·exfalso;refine k i s d ?_;exact qS (i:=j) (by rw [List.getElem?_take_of_lt c];exact b)
  ·rw [c]
  ·exfalso;refine k j s b ?_;exact qS (i:=i) (by rw [List.getElem?_take_of_lt c];exact d)
 ·have:j=i:=by omega
  subst this;rw [b]at d;exact oI d
def mvC (r:Rules):List Cond:=r.Moves.map eY.When
def rlC (r:Rules):List Cond:=r.Rules.map Rule.When
def rlP (r:Rules)(s:Str):Int:=(at' (aU (cNs (mvC r)) (rlC r)) (ruI r s)).getD 0
def ev0 (r:Rules)(l:List gW):gG:=
 gG.mk r (l.map gW.Name) (nP l) [] 0 ((List.replicate r.Phases.length false).set 0 true)
  ((bT 0 (mvC r)++bT (cNs (mvC r)) (rlC r)).map (aO (rlP r))) ((cNs (mvC r):Nat):Int) (aU 0 (mvC r)) (aU (cNs (mvC r)) (rlC r))
theorem aWk {n:Nat}: ∀l:List Cond,(∀x∈l,cN x<=n)->cNs l<=n*l.length
 | [],_=>by rw [cNs];exact Nat.zero_le _
 |x::l,h=>by
  have c:=h x List.mem_cons_self;have d:=aWk l λy b=>h y (List.mem_cons_of_mem _ b)
  rw [cNs,List.length_cons,Nat.mul_add];omega
theorem begin_eq (r:Rules)(b:r.Phases.length<=20):Fd8 r=some ((List.replicate r.Phases.length false).set 0 true):=by
 unfold Fd8;have mk:make' 1 (r.Phases.length:Int) (false:Bool)=some (List.replicate r.Phases.length false):=by
  unfold make';rw [if_pos ⟨by omega,by omega,by omega⟩,Int.toNat_natCast]
 simp only [zG];rw [mk,zA,List.length_replicate]
 cases h:r.Phases.length with
 |zero=>rfl
 |succ n=>
  rw [dT (by omega:(0:Int)<((n+1:Nat):Int)),zS];have a:at' (List.replicate (n+1) false) 0=some false:=by
   have:=yH (l:=List.replicate (n+1) false) (i:=0) (x:=false) (by simp [List.replicate_succ]);exact this
  have s:set' (List.replicate (n+1) false) 0 true=some ((List.replicate (n+1) false).set 0 true):=by
   unfold set';rw [if_pos ⟨by omega,by rw [List.length_replicate];omega⟩];rfl
  rw [a,zA,s];rfl
def pM (r:Rules)(c:Cond):Prop:=Gt c/\pJ pMv c=false/\ ∀s∈aQ c,s∈bH r
def pR (r:Rules)(i:Nat)(c:Cond):Prop:=Gt c/\pJ (pRl r i) c=false/\ ∀s∈aQ c,s∈bH r
theorem aWt {r:Rules}(c x:Cond)(h:pM r c)(b:x∈c.Kids):pM r x:=⟨h.1.kid b,aJe b h.2.1,λs d=>h.2.2 s (aFo b d)⟩
theorem aYd {r:Rules}{i:Nat}(c x:Cond)(h:pR r i c)(b:x∈c.Kids):pR r i x:=⟨h.1.kid b,aJe b h.2.1,λs d=>h.2.2 s (aFo b d)⟩
theorem bAr {r:Rules}{l:List gW}(h:GB r l){m:eY}(hm:m∈r.Moves):pM r m.When:=⟨(h.g.mg m hm).1,(mv_ok h.c hm).2.2,λ_ b=>nm_mv hm b⟩
theorem bAe {r:Rules}{l:List gW}(h:GB r l){i:Nat}{x:Rule}(b:r.Rules[i]? =some x):pR r i x.When:=⟨(h.g.lg x (qS b)).1,(aXp h.c i x b).2,λ_ d=>nm_rl (qS b) d⟩
theorem pMv_no {c:Cond}(h:pJ pMv c=false):c.Kind≠6/\c.Kind≠7:=by
 have q:=aBo h;unfold pMv at q;constructor<;>(intro e;rw [e]at q;simp at q)
theorem dN_20 {c:Cond}(g:Gt c):dN c<=1000000:=by have:=g.d;omega
theorem mv_cN {r:Rules}{l:List gW}(h:GB r l):cNs (mvC r)<=12000:=by
 have q:=aWk (n:=200) (mvC r) (λ_ b=>by obtain⟨m,hm,rfl⟩:=List.mem_map.1 b;exact(h.g.mg m hm).1.n);have:=h.g.m;unfold mvC at q⊢;rw [List.length_map]at q;omega
theorem rl_cN {r:Rules}{l:List gW}(h:GB r l):cNs (rlC r)<=12000:=by
 have q:=aWk (n:=200) (rlC r) (λ_ b=>by obtain⟨m,hm,rfl⟩:=List.mem_map.1 b;exact(h.g.lg m hm).1.n);have:=h.g.l;unfold rlC at q⊢;rw [List.length_map]at q;omega
theorem rlP_at {r:Rules}{i:Nat}{s:Str}{l:List gW} (h:s∈(r.Rules.take i).map Rule.Name): ∃(j:Nat) (x:Rule) (k:Int),ruI r s=(j:Int)/\(MkR r l i).rl s=(j:Int)/\j<i/\r.Rules[j]? =some x/\(aU (cNs (mvC r)) (rlC r))[j]? =some k/\rlP r s=k/\at' (aU (cNs (mvC r)) ((r.Rules.take i).map Rule.When)) (j:Int)=some k:=by
 obtain⟨j,x,c,n,o,d,-⟩:=ru_at (l:=l) h;have p:=(gS.1 d).1;have q:j<(aU (cNs (mvC r)) (rlC r)).length:=by rw [aBr];unfold rlC;rw [List.length_map];exact p
 have b:(aU (cNs (mvC r)) (rlC r))[j]? =some (aU (cNs (mvC r)) (rlC r))[j]:=gE q;refine⟨j,x,_,c,n,o,d,b,?_,?_⟩;unfold rlP;rw [c,jA,b];rfl;rw [jA,<-b];have e:rlC r=(r.Rules.take i).map Rule.When++(r.Rules.drop i).map Rule.When:=by rw [<-List.map_append,List.take_append_drop];rfl
 rw [e,aMg,List.getElem?_append_left];rw [aBr,List.length_map,List.length_take];omega
theorem aVw {r:Rules}{l:List gW}(h:GB r l):Fdb r l=some (ev0 r l):=by
 have g:=h.g;have B:=empty1 l (by have:=h.t.n;omega);have C:=begin_eq r g.p;have nm:=mv_cN h;have J:=rl_cN h;have D:=empty2 (r:=r) (ph:=(List.replicate r.Phases.length false).set 0 true) (nm:=l.map gW.Name) (ds:=l.map λt=>t.Series.Den) (rl:=rlP r) (pM r) aWt
  (λv c b=>⟨⟨b.1.self.fr.1,b.1.self.fr.2⟩,b.1.kids,λd=>absurd d (pMv_no b.2.1).2⟩) (λm hm=>bAr h hm) (by have:=g.m;omega) (λm hm=>dN_20 (g.mg m hm).1) (by show cNs (mvC r)<=_;omega)
 have ll:((bT 0 (mvC r)).map (aO (rlP r))).length=cNs (mvC r):=by rw [List.length_map,jU]
 have w:=empty3 (r:=r) (ph:=(List.replicate r.Phases.length false).set 0 true) (nm:=l.map gW.Name) (ds:=l.map λt=>t.Series.Den) (rl:=rlP r) (ns:=(bT 0 (mvC r)).map (aO (rlP r))) (mv:=aU 0 (mvC r)) (f0:=((cNs (mvC r):Nat):Int))
  (λi x e=>⟨pR r i,aYd,bAe h e,λv c E o b=>⟨⟨b.1.self.fr.1,b.1.self.fr.2⟩,b.1.kids,λd=>by
   have A:=(aAz i (aBo b.2.1)).2 d;obtain⟨_,_,_,F,a2,a3,a4,a5,G,H⟩:=rlP_at (l:=l) A;refine⟨ruI r c.Name,by rw [E];exact aWi r _ (by have:=g.l;omega) (by obtain⟨z,I,q⟩:=List.mem_map.1 A;exact List.mem_map.2 ⟨z,List.mem_of_mem_take I,q⟩),?_⟩;rw [o,ll,F,G];exact H⟩⟩) (by have:=g.l;omega) (λx e=>dN_20 (g.lg x e).1) (by rw [ll];show cNs (mvC r)+cNs (rlC r)<=_;omega)
 unfold Fdb;rw [C,zA,B,zA];dsimp only;rw [D,zA];simp only [zG];have s:((bT 0 (r.Moves.map eY.When)).map (aO (rlP r))).length=cNs (mvC r):=ll;rw [ll]at w;rw [s];have u:Fen r ((List.replicate r.Phases.length false).set 0 true) (l.map gW.Name) (l.map λt=>t.Series.Den) (aU 0 (r.Moves.map eY.When)) ((cNs (mvC r):Nat):Int) (0,(bT 0 (r.Moves.map eY.When)).map (aO (rlP r)),[])=_:=w;rw [u,zA];refine congrArg some ?_;unfold ev0;rw [List.map_append];rfl
def itm (M:Mk)(rl:Str->Int)(x:It):Itm:=⟨x.c,x.ks,M,if x.c.Kind=7 then rl x.c.Name else 0⟩
def aXh (b:Nat)(L:List Itm):Prop:= ∀(g:Nat) (it:Itm),L[g]? =some it->it.ks.length=it.c.Kids.length/\aOs it.c/\ ∀(j:Nat) (k:Int),it.ks[j]? =some k-> ∃(d:Nat) (y:Itm),k=((b+d:Nat):Int)/\d<g/\L[d]? =some y/\it.c.Kids[j]? =some y.c/\y.M=it.M
theorem aXh.app {b:Nat}{d w:List Itm} (A:aXh b d) (B:aXh (b+d.length) w):aXh b (d++w):=by
 intro g x e;by_cases c:g<d.length;rw [List.getElem?_append_left c]at e;obtain⟨h,a0,a2⟩:=A g x e;refine⟨h,a0,λj k n=>?_⟩;obtain⟨o,y,p,z,q,s,u⟩:=a2 j k n;exact⟨o,y,p,z,by rw [List.getElem?_append_left (by omega)];exact q,s,u⟩;rw [List.getElem?_append_right (by omega)]at e;obtain⟨h,a0,a2⟩:=B _ x e;refine⟨h,a0,λj k n=>?_⟩;obtain⟨o,y,p,z,q,s,u⟩:=a2 j k n;exact⟨d.length+o,y,by rw [p];congr 1;omega,by omega,by rw [List.getElem?_append_right (by omega),Nat.add_sub_cancel_left];exact q,s,u⟩
theorem aVt {b:Nat}{L:List It}{M:Mk}{rl:Str->Int}(h:aHk b L)(n: ∀x∈L,aOs x.c):aXh b (L.map (itm M rl)):=by
 intro g _ d;rw [List.getElem?_map,Option.map_eq_some_iff]at d;obtain⟨x,e,rfl⟩:=d;obtain⟨o,a2⟩:=h g x e;refine⟨o,n x (qS e),λj k p=>?_⟩;obtain⟨q,y,s,u,w,z⟩:=a2 j k p;exact⟨q,itm M rl y,s,u,by rw [List.getElem?_map,w];rfl,z,rfl⟩
theorem aLz {p:Cond->Prop}(e: ∀c x:Cond,p c->x∈c.Kids->p x): ∀(cs:List Cond) (b:Nat),(∀c∈cs,p c)-> ∀x∈bT b cs,p x.c
 | [],b,_,x,d=>by rw [bT]at d;simp at d
 |c::cs,b,j,x,d=>by
  rw [bT]at d;rcases mA.1 d with h|h
  ·exact aFv e b c (j c List.mem_cons_self) x h
  ·exact aLz e cs _ (λy k=>j y (List.mem_cons_of_mem _ k)) x h
def aCa (r:Rules)(l:List gW):Nat->Nat->List Rule->List Itm
 |_,_,[]=>[]
 |i,b,x::c=>(aV b x.When).map (itm (MkR r l i) (rlP r))++aCa r l (i+1) (b+(aV b x.When).length) c
def tV (r:Rules)(l:List gW):List Itm:=(bT 0 (mvC r)).map (itm (MkR r l 0) (rlP r))++aCa r l 0 (cNs (mvC r)) r.Rules
section
variable {r:Rules}{l:List gW}
theorem itmL_B: ∀(c:List Rule) (i b:Nat),(∀(k:Nat) x,c[k]? =some x->pR r (i+k) x.When)->aXh b (aCa r l i b c)
 | [],i,b,_=>λg it h=>by rw [aCa]at h;simp at h
 |x::c,i,b,h=>by
  rw [aCa];have e:=h 0 x rfl;refine(aVt (aRg b x.When) (λy d=>aUh (aFv aYd b x.When e y d).1)).app ?_;rw [List.length_map];exact itmL_B c (i+1) _ λk y d=>by rw [show i+1+k=i+(k+1)by omega];exact h (k+1) y (by simpa using d)
theorem aZg: ∀(d:List Rule) (i b:Nat),(aCa r l i b d).map (λy=>(⟨y.c,y.ks⟩:It))=bT b (d.map Rule.When)
 | [],_,_=>rfl
 |x::d,i,b=>by
  rw [aCa,List.map_append,aZg d,List.map_cons,bT,List.map_map]
  congr 1
  exact List.map_id _
theorem bBz: ∀(d:List Rule) (i b:Nat),∀y∈aCa r l i b d,y.rule=if y.c.Kind=7 then rlP r y.c.Name else 0
 | [],_,_,y,h=>by rw [aCa]at h;simp at h
 |x::d,i,b,y,h=>by
  rw [aCa]at h;rcases mA.1 h with h|h
  ·obtain⟨z,e,rfl⟩:=List.mem_map.1 h;rfl
  ·exact bBz d _ _ y h
theorem aZx: ∀y∈tV r l,y.rule=if y.c.Kind=7 then rlP r y.c.Name else 0:=λy h=>by
 unfold tV at h;rcases mA.1 h with h|h
 ·obtain⟨_,_,rfl⟩:=List.mem_map.1 h;rfl
 ·exact bBz _ _ _ y h
theorem aQh:(tV r l).map (λy=>(⟨y.c,y.ks⟩:It))=bT 0 (mvC r)++bT (cNs (mvC r)) (rlC r):=by
 unfold tV;rw [List.map_append,aZg,List.map_map];congr 1;exact List.map_id _
theorem aUy:(tV r l).length=cNs (mvC r)+cNs (rlC r):=by
 have h:=congrArg List.length (aQh (r:=r) (l:=l));rw [List.length_map,List.length_append,jU,jU]at h;exact h
theorem bBk (h:GB r l):aSg (tV r l):=by
 have q:aXh 0 (tV r l):=by
  unfold tV;refine(aVt (bAv _ 0) (λy e=>aUh (aLz aWt (mvC r) 0 (λc n=>by obtain⟨m,hm,rfl⟩:=List.mem_map.1 n;exact bAr h hm) y e).1)).app ?_;rw [List.length_map,jU,Nat.zero_add];exact itmL_B _ 0 _ λk _ o=>by rw [Nat.zero_add];exact bAe h o
 intro g it d;obtain⟨a,b,c⟩:=q g it d;refine⟨a,b,λj k p=>?_⟩;obtain⟨s,y,u,w⟩:=c j k p;exact⟨s,y,by rw [u,Nat.zero_add],w⟩
theorem aTj: ∀(n:List Rule) (i b:Nat),(∀(k:Nat) x,n[k]? =some x->pR r (i+k) x.When)-> ∀(g:Nat) it,(aCa r l i b n)[g]? =some it-> ∃k,k<n.length/\it.M=MkR r l (i+k)/\pR r (i+k) it.c/\
  ∀(j:Nat) y,j<k->n[j]? =some y-> ∃(q:Nat) (z:Itm),(aU b (n.map Rule.When))[j]? =some ((b+q:Nat):Int)/\q<g/\(aCa r l i b n)[q]? =some z/\z.c=y.When/\z.M=MkR r l (i+j)
 | [],i,b,_,g,it,h=>by rw [aCa]at h;simp at h
 |x::n,i,b,h,g,it,e=>by
  rw [aCa]at e⊢;have w:=h 0 x rfl;have G:=aFd b x.When;have d:((aV b x.When).map (itm (MkR r l i) (rlP r))).length=(aV b x.When).length:=List.length_map _
  by_cases c:g<(aV b x.When).length
  ·rw [List.getElem?_append_left (by rw [d];exact c),List.getElem?_map,Option.map_eq_some_iff]at e;obtain⟨y,o,rfl⟩:=e;exact⟨0,by simp,rfl,aFv aYd b x.When w y (qS o),λj y p=>absurd p (Nat.not_lt_zero _)⟩
  ·rw [List.getElem?_append_right (by rw [d];omega),d]at e;obtain⟨k,_,s,u,A⟩:=aTj n (i+1) (b+(aV b x.When).length) (λk y o=>by rw [show i+1+k=i+(k+1)by omega];exact h (k+1) y (by simpa using o)) _ it e;have B:i+1+k=i+(k+1):=by omega
   rw [B]at s u;refine⟨k+1,by simp;omega,s,u,λj y p o=>?_⟩
   cases j with
   |zero=>
    obtain rfl:x=y:=by simpa using o
    refine⟨(aV b x.When).length-1,itm (MkR r l i) (rlP r) ⟨x.When,(eQ b x.When.Kids).2⟩,?_,by omega,?_,rfl,rfl⟩
    ·rw [List.map_cons,aU,List.getElem?_cons_zero];congr 2;omega
    ·rw [List.getElem?_append_left (by rw [d];omega),List.getElem?_map,aCv];rfl
   |succ j=>
    obtain⟨q,z,C,_,D,E,F⟩:=A j y (by omega) (by simpa using o);refine⟨(aV b x.When).length+q,z,?_,by omega,?_,E,by rw [F];congr 1;omega⟩
    ·rw [List.map_cons,aU,List.getElem?_cons_succ,C];congr 2;omega
    ·rw [List.getElem?_append_right (by rw [d];omega),d,Nat.add_sub_cancel_left];exact D
theorem aOu: ∀(e:List Rule) (i b j:Nat) (y:Rule),e[j]? =some y-> ∃(q:Nat) (z:Itm),(aU b (e.map Rule.When))[j]? =some ((b+q:Nat):Int)/\(aCa r l i b e)[q]? =some z/\z.c=y.When/\z.M=MkR r l (i+j)
 | [],_,_,j,y,h=>by simp at h
 |x::e,i,b,0,y,h=>by
  obtain rfl:x=y:=by simpa using h
  have s:=aFd b x.When;have d:((aV b x.When).map (itm (MkR r l i) (rlP r))).length=(aV b x.When).length:=List.length_map _;refine⟨(aV b x.When).length-1,itm (MkR r l i) (rlP r) ⟨x.When,(eQ b x.When.Kids).2⟩,?_,?_,rfl,rfl⟩
  ·rw [List.map_cons,aU,List.getElem?_cons_zero];congr 2;omega
  ·rw [aCa,List.getElem?_append_left (by rw [d];omega),List.getElem?_map,aCv];rfl
 |x::e,i,b,j+1,y,h=>by
  have d:((aV b x.When).map (itm (MkR r l i) (rlP r))).length=(aV b x.When).length:=List.length_map _;obtain⟨q,z,k,n,o,p⟩:=aOu e (i+1) (b+(aV b x.When).length) j y (by simpa using h);refine⟨(aV b x.When).length+q,z,?_,?_,o,by rw [p];congr 1;omega⟩
  ·rw [List.map_cons,aU,List.getElem?_cons_succ,k];congr 2;omega
  ·rw [aCa,List.getElem?_append_right (by rw [d];omega),d,Nat.add_sub_cancel_left];exact n
end
theorem aYa (E:En) (M:Mk): ∀(m:Nat) (c:Cond),dN c<=m->Gt c->ndA E 0 (mkN M c)=mkN M c
 |0,c,h,_=>by have:=qZ c;omega
 |m+1,c,h,g=>by
  have d: ∀x∈c.Kids,ndA E 0 (mkN M x)=mkN M x:=λx b=>by
   obtain⟨_,n⟩:=List.getElem?_of_mem b;exact aYa E M m x (by have:=(rF g.ok n).2.1;omega) (g.kid b)
  have gk:=g.gk;have p:=g.self;have k:aGd E 0 (c.Kids.map (mkN M))=c.Kids.map (mkN M):=by
   rw [aUf,List.map_map];exact List.map_congr_left λx b=>d x b
  rw [jF];rcases kinds p.k1 with e|e|e|e|e|e|e|e|e|e|e|e|e|e|e<;>rw [e]<;>simp only [mkK,Int.reduceEq,if_true,if_false,or_true,true_or,or_self]
  ·rw [ndA]
  ·rw [ndA]
  ·rw [ndA]
  ·rw [ndA]
  ·rw [ndA,win_zero]
  ·rw [ndA]
  ·rw [ndA]
  ·obtain⟨x,b⟩:=bZ (gk.o (by omega));rw [b,ndA,List.map_singleton,List.getD_cons_zero,d x (by rw [b];exact List.mem_cons_self)]
  ·rw [ndA,k]
  ·rw [ndA,k]
  ·obtain⟨x,b⟩:=bZ (gk.o (by omega));rw [b,ndA,List.map_singleton,List.getD_cons_zero,d x (by rw [b];exact List.mem_cons_self),win_zero]
  ·obtain⟨x,b⟩:=bZ (gk.o (by omega));rw [b,ndA,List.map_singleton,List.getD_cons_zero,d x (by rw [b];exact List.mem_cons_self),win_zero]
  ·obtain⟨x,b⟩:=bZ (gk.o (by omega));rw [b,ndA,List.map_singleton,List.getD_cons_zero,d x (by rw [b];exact List.mem_cons_self),win_zero]
  ·obtain⟨x,y,b⟩:=aBj (gk.t e);rw [b];show ndA E 0 (.since (mkN M x) (mkN M y) 0 false)= .since (mkN M x) (mkN M y) 0 false;rw [ndA,d x (by rw [b];simp),d y (by rw [b];simp)];rfl
  ·obtain⟨x,b⟩:=bZ (gk.o (by omega));rw [b,List.map_singleton,List.getD_cons_zero,ndA,d x (by rw [b];exact List.mem_cons_self)];rfl
theorem aAj {r:Rules}{l:List gW} (h:GB r l) (f:Nat->List fB):NewA f (fF r l):=by
 have g:=h.g;refine⟨λx b=>?_,λk c=>?_⟩
 ·obtain⟨m,hm,rfl⟩:=List.mem_map.1 b;exact aYa _ _ _ m.When (Nat.le_refl _) (g.mg m hm).1
 ·obtain⟨i,hi⟩:=List.getElem?_of_mem c;change (r.Rules.mapIdx (rlN r l))[i]? =some k at hi;rw [List.getElem?_mapIdx,Option.map_eq_some_iff]at hi;obtain⟨x,b,rfl⟩:=hi;exact aYa _ _ _ x.When (Nat.le_refl _) (g.lg x (qS b)).1
structure FrI (l:List gW)(f:Nat->List fB):Prop where
 len: ∀t,(f t).length=l.length
 bd: ∀t x,x∈f t-> -1125899906842624<=x.N/\x.N<=1125899906842624
section
variable {r:Rules}{l:List gW}{f:Nat->List fB}{t:Nat}
theorem aRu (h:GB r l)(b:FrI l f)(t:Nat):((EnW f (fF r l)).ps t).length=r.Phases.length:=by
 rw [ps_A (rY h) b.len (aAj h f),aKp,List.length_replicate]
theorem rlE_rng (h:GB r l)(b:FrI l f)(t:Nat): ∀x∈(EnW f (fF r l)).rl t,0<=x/\x<=2:=(aPx (aIp (rY h) b.len t) (b.len t)).2.2.1
theorem bCd (h:GB r l)(o:FrI l f){R:Nat}(k:Nd)(j:wfN l.length r.Phases.length R k)(t:Nat):0<=den (EnW f (fF r l)) k t/\den (EnW f (fF r l)) k t<=2:=by
 have g:=h.g
 cases k with
 |constant c=>rw [wfN]at j;rw [den];exact j
 |number tr op n=>
  rw [wfN]at j;rw [den];dsimp only;unfold aIb;obtain⟨y,e,q⟩:=aPe (m:=(EnW f (fF r l)).m t) (tr:=tr) (op:=op) (n:=n) ⟨j.1,by show tr<((f t).length:Int);rw [o.len];exact j.2⟩;rw [e];exact q
 |pair a b da db op=>
  rw [wfN]at j;rw [den];dsimp only;unfold pairT;obtain⟨y,e,q⟩:=bBn (m:=(EnW f (fF r l)).m t) (a:=a) (b:=b) (da:=da) (db:=db) (op:=op) ⟨⟨j.1.1,by show a<((f t).length:Int);rw [o.len];exact j.1.2⟩,j.2.1,by show b<((f t).length:Int);rw [o.len];exact j.2.2⟩;rw [e];exact q
 |steady tr n fr _=>
  rw [den];dsimp only;unfold stT;split
  ·omega
  ·split<;>omega
 |phase p=>
  rw [wfN]at j;rw [den];dsimp only;unfold nN;have u:=aRu h o t;obtain⟨y,e,q⟩:=aUl (m:=(EnW f (fF r l)).m t) (p:=p) ⟨j.1,by show p<(((EnW f (fF r l)).ps t).length:Int);rw [u];exact j.2⟩ (by show((EnW f (fF r l)).ps t).length<=_;rw [u];have:=g.p;omega);rw [e];exact q
 |rule i=>
  rw [den];dsimp only;unfold aBv
  cases e:at' ((EnW f (fF r l)).m t).rules i with
  |none=>exact⟨by decide,by decide⟩
  |some y=>
   have m:y∈(EnW f (fF r l)).rl t:=by
    unfold at' at e;split at e
    ·exact qS e
    ·exact absurd e (by simp)
   exact rlE_rng h o t y m
 |not k=>rw [den];exact bBr _
 |group _ s=>rw [den];cases s<;>exact aQu (by decide) _ _ (by decide)
 |count k n fr a b=>rw [den];exact aUs _ _ _
 |since a b c _=>
  rw [den]
  cases t with
  |zero=>rw [rC];exact xW _ _ _
  |succ t=>rw [rC];exact xW _ _ _
 |rises k a b=>rw [den];exact aKa _ _
theorem wf_M (h:GB r l){c:Cond}(b:pM r c):wfN l.length r.Phases.length 0 (mkN (MkR r l 0) c):=by
 refine aLt (MkR r l 0) pMv (λc b=>?_) (dN c) c (Nat.le_refl _) b.1 (λs d=>aJq (h.n s (b.2.2 s d))) b.2.1;unfold pMv at b;constructor<;>(intro e;rw [e]at b;simp at b)
theorem wf_R (h:GB r l){i:Nat}{c:Cond}(b:pR r i c):wfN l.length r.Phases.length i (mkN (MkR r l i) c):=by
 refine aLt (MkR r l i) (pRl r i) (λc b=>?_) (dN c) c (Nat.le_refl _) b.1 (λs d=>aJq (h.n s (b.2.2 s d))) b.2.1;obtain⟨k,o⟩:=aAz i b;refine⟨λe=>aYg h (k e),λe=>?_⟩;obtain⟨_,_,-,p,_,-⟩:=ru_at (l:=l) (o e);rw [p];omega
theorem itms_M (h:GB r l){n:Nat}{it:Itm}(d:n<cNs (mvC r))(b:(tV r l)[n]? =some it):it.M=MkR r l 0/\pM r it.c:=by
 unfold tV at b;rw [List.getElem?_append_left (by rw [List.length_map,jU];exact d),List.getElem?_map,Option.map_eq_some_iff]at b;obtain⟨y,e,rfl⟩:=b;exact⟨rfl,aLz aWt (mvC r) 0 (λc j=>by obtain⟨m,hm,rfl⟩:=List.mem_map.1 j;exact bAr h hm) y (qS e)⟩
theorem itms_R (h:GB r l){n:Nat}{it:Itm}(u:cNs (mvC r)<=n)(e:(tV r l)[n]? =some it): ∃k,k<r.Rules.length/\it.M=MkR r l k/\pR r k it.c/\
    ∀(j:Nat) y,j<k->r.Rules[j]? =some y-> ∃(q:Nat) (z:Itm),(aU (cNs (mvC r)) (rlC r))[j]? =some (q:Int)/\q<n/\(tV r l)[q]? =some z/\z.c=y.When/\z.M=MkR r l j:=by
 have b:((bT 0 (mvC r)).map (itm (MkR r l 0) (rlP r))).length=cNs (mvC r):=by rw [List.length_map,jU]
 have d:=e;unfold tV at d;rw [List.getElem?_append_right (by rw [b];exact u),b]at d;obtain⟨k,w,o,p,A⟩:=aTj r.Rules 0 _ (λk _ B=>by rw [Nat.zero_add];exact bAe h B) _ it d;rw [Nat.zero_add]at o p;refine⟨k,w,o,p,λj y C D=>?_⟩;obtain⟨q,z,E,_,F,G,s⟩:=A j y C D;rw [Nat.zero_add]at s;refine⟨cNs (mvC r)+q,z,E,by omega,?_,G,s⟩;unfold tV;rw [List.getElem?_append_right (by rw [b];omega),b,Nat.add_sub_cancel_left];exact F
theorem itms_rng (h:GB r l) (e:FrI l f): ∀it∈tV r l,∀s,0<=den (EnW f (fF r l)) (mkN it.M it.c) s/\den (EnW f (fF r l)) (mkN it.M it.c) s<=2:=λit d s=>by
 obtain⟨n,j⟩:=List.getElem?_of_mem d
 by_cases c:n<cNs (mvC r)
 ·obtain⟨a,b⟩:=itms_M h c j;rw [a];exact bCd h e _ (wf_M h b) s
 ·obtain⟨_,-,a,b,-⟩:=itms_R h (by omega) j;rw [a];exact bCd h e _ (wf_R h b) s
theorem at_eq6 (h:GB r l)(d:FrI l f){v:gG}(e:v.names=l.map gW.Name)(hd:v.dens=nP l)(j:v.told=f t){s:Str}(k:s∈bH r)(i:Nat):
  Fae v s=some ((EnW f (fF r l)).tk ((MkR r l i).tr s) t,(MkR r l i).dn ((MkR r l i).tr s))/\at' ((EnW f (fF r l)).told t) ((MkR r l i).tr s)=some ((EnW f (fF r l)).tk ((MkR r l i).tr s) t):=by
 have hm:=h.n s k;have c:=aJq hm;have o:=aOq (l.map gW.Name) s (by rw [List.length_map];have:=h.t.n;omega) hm;obtain⟨_,p⟩:=vM (l:=f t) (i:=trI l s) (by rw [d.len];exact c);have a2:at' ((EnW f (fF r l)).told t) ((MkR r l i).tr s)=some ((EnW f (fF r l)).tk ((MkR r l i).tr s) t):=by
  unfold En.tk;show at' (f t) (trI l s)=some ((at' (f t) (trI l s)).getD _);rw [p];rfl
 refine⟨?_,a2⟩;have b:at' (f t) (trI l s)=some ((EnW f (fF r l)).tk ((MkR r l i).tr s) t):=a2;have a3:at' (nP l) (trI l s)=some ((MkR r l i).dn ((MkR r l i).tr s)):=at_D (by unfold nP;rw [List.length_map];exact c);unfold Fae;rw [e,hd,j,o,zA];show gB (at' (f t) (trI l s)) _=_;rw [b,zA];show gB (at' (nP l) (trI l s)) _=_;rw [a3,zA]
theorem tk_bd (c:FrI l f)(w:gZ)(tr:Int)(s:Nat): -1125899906842624<=((EnW f w).tk tr s).N/\((EnW f w).tk tr s).N<=1125899906842624:=by
 unfold En.tk
 cases e:at' ((EnW f w).told s) tr with
 |none=>exact⟨by decide,by decide⟩
 |some y=>
  have m:y∈f s:=by
   have b:at' (f s) tr=some y:=e;unfold at' at b;split at b
   ·exact qS b
   ·exact absurd b (by simp)
  exact c.bd s y m
theorem aVy (h:GB r l) (b:FrI l f) {v:gG} (e:v.names=l.map gW.Name) (hd:v.dens=nP l) (j:v.told=f t) (d:v.frames=(t:Int)) (n:t<=1000000000) {i:Nat}{c:Cond}{x:gI} (o: ∀s∈aQ c,s∈bH r)
  (ph:c.Kind=6->v.phase=(EnW f (fF r l)).ps t/\v.phase.length<=2000000/\Fac v.r.Phases c.Name=some ((MkR r l i).ph c.Name)/\0<=(MkR r l i).ph c.Name/\(MkR r l i).ph c.Name<v.phase.length)
  (rl:c.Kind=7-> ∃y,at' v.nodes x.rule=some y/\at' ((EnW f (fF r l)).rl t) ((MkR r l i).rl c.Name)=some y.now):Looks (EnW f (fF r l)) (MkR r l i) t c x v:=by
 have nm: ∀s∈nm1 c,s∈bH r:=λs p=>o s (by rw [vV,mA];exact .inl p)
 refine⟨d,n,λk=>at_eq6 h b e hd j (nm _ ?_) i,λk=>at_eq6 h b e hd j (nm _ ?_) i,λtr s=>tk_bd b _ tr s,ph,rl⟩
 ·unfold nm1;rcases k with k|k|k<;>simp [k]
 ·unfold nm1;simp [k]
end
structure EvI (r:Rules)(l:List gW)(f:Nat->List fB)(t:Nat)(v:gG):Prop where
 rs:v.r=r
 names:v.names=l.map gW.Name
 dens:v.dens=nP l
 frames:v.frames=(t:Int)
 phase:v.phase=psB (EnW f (fF r l)) (fF r l) t
 nd:sV (EnW f (fF r l)) (tV r l) v.nodes 0 t
 first:v.first=((cNs (mvC r):Nat):Int)
 moves:v.moves=aU 0 (mvC r)
 rules:v.rules=aU (cNs (mvC r)) (rlC r)
section
variable {r:Rules}{l:List gW}{f:Nat->List fB}{t:Nat}{v:gG}
theorem aSt (h:GB r l) (f:Nat->List fB):EvI r l f 0 (ev0 r l):=by
 refine⟨rfl,rfl,rfl,rfl,rfl,⟨?_,λg it b=>?_⟩,rfl,rfl,rfl⟩;show(List.map _ _).length=_;rw [List.length_map,<-aQh (l:=l),List.length_map];have hi:=(bBk h g it b).2.1;have e:(bT 0 (mvC r)++bT (cNs (mvC r)) (rlC r))[g]? =some ⟨it.c,it.ks⟩:=by rw [<-aQh (l:=l),List.getElem?_map,b];rfl
 refine⟨aO (rlP r) ⟨it.c,it.ks⟩,?_,?_,?_⟩;show(List.map _ _)[g]? =_;rw [List.getElem?_map,e];rfl;rw [if_neg (Nat.not_lt_zero _)];exact node0_I (it:=⟨it.c,it.ks⟩) hi;rw [aZx it (qS b)];rfl
theorem aRw (h:GB r l)(b:FrI l f){j:Nat}{y:Rule}(c:r.Rules[j]? =some y)(t:Nat):at' ((EnW f (fF r l)).rl t) (j:Int)=some (den (EnW f (fF r l)) (mkN (MkR r l j) y.When) t):=by
 rw [rl_A (rY h) b.len (aAj h f) t,jA,List.getElem?_map];show Option.map _ ((r.Rules.mapIdx (rlN r l))[j]?)=_;rw [List.getElem?_mapIdx,c];rfl
theorem look_R (h:GB r l) (o:FrI l f) (d:EvI r l f t v) (D:t<=1000000000) {n:Nat}{ns:List gI}{it:Itm}{x:gI} (E:cNs (mvC r)<=n) (F:sV (EnW f (fF r l)) (tV r l) ns n t) (b:(tV r l)[n]? =some it) (s:x.rule=it.rule):
    Looks (EnW f (fF r l)) it.M t it.c x (wN v (f t) ((EnW f (fF r l)).ps t) ns):=by
 obtain⟨k,_,G,u,H⟩:=itms_R h E b;have g:=h.g;obtain⟨m1,m2⟩:=aAz k (aBo u.2.1);have A:=aRu h o t;rw [G];refine aVy (v:=wN v (f t) ((EnW f (fF r l)).ps t) ns) h o d.names d.dens rfl d.frames D u.2.2 (λe=>?_) λe=>?_;obtain⟨I,B,-⟩:=bBc g.p g.pd (m1 e);refine⟨rfl,by show((EnW f (fF r l)).ps t).length<=_;rw [A];have:=g.p;omega,?_,B.1,?_⟩;show Fac v.r.Phases _=_;rw [d.rs];exact I;show wG r.Phases it.c.Name<(((EnW f (fF r l)).ps t).length:Int);rw [A];exact B.2;obtain⟨j,y,_,_,a2,a3,a4,a5,J,-⟩:=rlP_at (l:=l) (m2 e);obtain⟨_,_,C,K,L,N,O⟩:=H j y a3 a4;obtain⟨w,P,Q⟩:=F.now (v:=wN v (f t) ((EnW f (fF r l)).ps t) ns) L K;refine⟨w,?_,?_⟩;rw [s,aZx it (qS b),if_pos e,J];rw [a5]at C;rw [oI C];exact yH P;rw [a2,aRw h o a4 t,Q,N,O]
theorem look_M (h:GB r l)(k:FrI l f)(b:EvI r l f t v)(o:t<=1000000000){n:Nat}{ns:List gI}{it:Itm}{x:gI}{ph:List Bool}(p:n<cNs (mvC r))(d:(tV r l)[n]? =some it):
    Looks (EnW f (fF r l)) it.M t it.c x (wN v (f t) ph ns):=by
 obtain⟨q,j⟩:=itms_M h p d;obtain⟨s,u⟩:=pMv_no j.2.1;rw [q];exact aVy (v:=wN v (f t) ph ns) h k b.names b.dens rfl b.frames o j.2.2 (λe=>absurd e s) λe=>absurd e u
theorem moved_6 (h:GB r l) (j:FrI l f) (b:EvI r l f t v) {ns:List gI} (C:sV (EnW f (fF r l)) (tV r l) ns (cNs (mvC r)) t):
  Fbk (wN v (f t) v.phase ns) v.phase=some ((EnW f (fF r l)).ps t):=by
 have g:=h.g;have M:=g.p;rw [ps_A (rY h) j.len (aAj h f) t,b.phase];have n:((fF r l).moves.map λx=>(x,den (EnW f (fF r l)) x.when t)).length=r.Moves.length:=by
  rw [List.length_map];show(r.Moves.map (mvN r l)).length=_;rw [List.length_map]
 refine moved_ok6 (v:=wN v (f t) (psB (EnW f (fF r l)) (fF r l) t) ns) (zs:=(fF r l).moves.map λx=>(x,den (EnW f (fF r l)) x.when t)) (P:=r.Phases.length) ⟨?_,?_,?_,λk _ o=>?_⟩ _ ?_ (by omega)
 ·show v.r.Moves.length=_;rw [b.rs,n]
 ·rw [n];have:=g.m;omega
 ·show v.r.Phases.length=_;rw [b.rs]
 ·rw [List.getElem?_map,Option.map_eq_some_iff]at o;obtain⟨x,d,rfl⟩:=o;change (r.Moves.map (mvN r l))[k]? =some x at d;rw [List.getElem?_map,Option.map_eq_some_iff]at d;obtain⟨m,hm,rfl⟩:=d;have D:=qS hm;obtain⟨f1,f2,-⟩:=mv_ok h.c D;obtain⟨q,y,u,A,E⟩:=aVc (mvC r) 0 k m.When (by unfold mvC;rw [List.getElem?_map,hm];rfl);rw [Nat.zero_add]at u;have B:q<cNs (mvC r):=by have:=(gS.1 A).1;rwa [jU]at this
  have F:(tV r l)[q]? =some (itm (MkR r l 0) (rlP r) y):=by
   unfold tV;rw [List.getElem?_append_left (by rw [List.length_map,jU];exact B),List.getElem?_map,A];rfl
  obtain⟨w,G,H⟩:=C.now (v:=wN v (f t) v.phase ns) F B;obtain⟨_,_,I⟩:=bBc g.p g.pd f1;obtain⟨J,K,-⟩:=bBc g.p g.pd f2;refine⟨m,(q:Int),w,?_,?_,yH G,?_,?_,K,λi s L=>?_⟩
  ·show v.r.Moves[k]? =_;rw [b.rs];exact hm
  ·show at' v.moves (k:Int)=_;rw [b.moves,jA];exact u
  ·rw [H];show den _ (mkN (MkR r l 0) y.c) t=den _ (mkN (MkR r l 0) m.When) t;rw [E]
  ·show Fac v.r.Phases m.To=_;rw [b.rs];exact J
  ·refine I i s ?_;have e:v.r.Phases[i]? =some s:=L;rwa [b.rs]at e
 ·rw [<-aFb];exact(aIp (rY h) j.len t).po
theorem next_6 (h:GB r l) (o:FrI l f) (b:EvI r l f t v) (p:t<=1000000000): ∃e,Fao v (f t)=some e/\EvI r l f (t+1) e/\e.phase=(EnW f (fF r l)).ps t/\e.told=f t/\
  ∀(j:Nat) y,r.Rules[j]? =some y-> ∃k x,at' e.rules (j:Int)=some k/\at' e.nodes k=some x/\at' ((EnW f (fF r l)).rl t) (j:Int)=some x.now:=by
 have D:=bBk h;have ll:(tV r l).length<=24000:=by rw [aUy];have:=mv_cN h;have:=rl_cN h;omega
 obtain⟨ns,F,A⟩:=frame6_ok (E:=EnW f (fF r l)) (told:=f t) D b.nd b.first (by rw [aUy];omega) (by omega) (itms_rng h o) b.frames p
  (λn ns it x s _ d _ _=>look_M h o b p s d)
  (λn ns it x s u d _ w=>look_R h o b p s u d w)
  (λns u=>moved_6 h o b u)
 refine⟨_,F,⟨b.rs,b.names,b.dens,rfl,rfl,A,b.first,b.moves,b.rules⟩,rfl,rfl,λj y B=>?_⟩;obtain⟨q,z,G,H,I,J⟩:=aOu (r:=r) (l:=l) r.Rules 0 (cNs (mvC r)) j y B;have K:(tV r l)[cNs (mvC r)+q]? =some z:=by
  have c:((bT 0 (mvC r)).map (itm (MkR r l 0) (rlP r))).length=cNs (mvC r):=by rw [List.length_map,jU]
  unfold tV;rw [List.getElem?_append_right (by rw [c];omega),c,Nat.add_sub_cancel_left];exact H
 obtain⟨x,L,C,-⟩:=A.nd _ z K;rw [if_neg (Nat.not_lt_zero _)]at C;refine⟨((cNs (mvC r)+q:Nat):Int),x,?_,yH L,?_⟩
 ·show at' v.rules (j:Int)=_;rw [b.rules,jA];exact G
 ·rw [aRw h o B t,C.now,I,J,Nat.zero_add];rfl
end
theorem numT_tk {m m':gK}{tr b:Int}(h:at' m.told tr=at' m'.told b)(op n:Int):aIb m tr op n=aIb m' b op n:=by
 unfold aIb Fa6;dsimp only;rw [h]
theorem pairT_tk {m m':gK}{a b a' c da db:Int}(d:at' m.told a=at' m'.told a')(e:at' m.told b=at' m'.told c)(op:Int):pairT m a b da db op=pairT m' a' c da db op:=by
 unfold pairT Fa5;dsimp only;rw [d,e]
structure aRy (r:Rules)(l1 l2:List gW)(f1 f2:Nat->List fB):Prop where
 g1:GB r l1
 g2:GB r l2
 h1:FrI l1 f1
 h2:FrI l2 f2
 tk: ∀s∈bH r,∀t,at' (f1 t) (trI l1 s)=at' (f2 t) (trI l2 s)
 dn: ∀s∈bH r,(MkR r l1 0).dn (trI l1 s)=(MkR r l2 0).dn (trI l2 s)
section
variable {r:Rules}{l1 l2:List gW}{f1 f2:Nat->List fB}
theorem aPw {b:Type}{f g:Nat->b}{n t:Nat}(h: ∀s,s<=t->f s=g s):win f n (t+1)=win g n (t+1):=win_congr λs _=>h s (by omega)
theorem aNr {a b a' e:Nat->Int}: ∀t:Nat,(∀s,s<=t->a s=a' s)->(∀s,s<=t->b s=e s)->rC a b t=rC a' e t
 |0,c,d=>by rw [rC,rC,c 0 (Nat.le_refl _),d 0 (Nat.le_refl _)]
 |t+1,c,d=>by
  rw [rC,rC,c (t+1) (Nat.le_refl _),d (t+1) (Nat.le_refl _),aNr t (λs h=>c s (by omega)) λs h=>d s (by omega)]
theorem prv_le {f g:Nat->Int}{t:Nat}(h: ∀s,s<=t->f s=g s):prv f t=prv g t:=by
 cases t with
 |zero=>rfl
 |succ t=>exact h t (by omega)
theorem aQm (H:aRy r l1 l2 f1 f2) (i:Nat) (q:Cond->Bool) (T:Nat) (A: ∀c,q c=false->(c.Kind=6-> ∀t,t<=T->nN ((EnW f1 (fF r l1)).m t) (wG r.Phases c.Name)=nN ((EnW f2 (fF r l2)).m t) (wG r.Phases c.Name))/\(c.Kind=7-> ∀t,t<=T->aBv ((EnW f1 (fF r l1)).m t) ((MkR r l1 i).rl c.Name)=aBv ((EnW f2 (fF r l2)).m t) ((MkR r l1 i).rl c.Name))):
  ∀(n:Nat) (c:Cond),dN c<=n->Gt c->pJ q c=false->(∀s∈aQ c,s∈bH r)-> ∀t,t<=T->den (EnW f1 (fF r l1)) (mkN (MkR r l1 i) c) t=den (EnW f2 (fF r l2)) (mkN (MkR r l2 i) c) t
 |0,c,h,_,_,_,_,_=>by have:=qZ c;omega
 |n+1,c,h,g,B,C,t,z=>by
  have p: ∀x∈c.Kids,∀s,s<=T->den (EnW f1 (fF r l1)) (mkN (MkR r l1 i) x) s=den (EnW f2 (fF r l2)) (mkN (MkR r l2 i) x) s:=λx b s d=>by
   obtain⟨_,E⟩:=List.getElem?_of_mem b;exact aQm H i q T A n x (by have:=(rF g.ok E).2.1;omega) (g.kid b) (aJe b B) (λs d=>C s (aFo b d)) s d
  have gk:=g.gk;have F:=g.self;have D:=A c (aBo B);have nm: ∀s∈nm1 c,s∈bH r:=λs d=>C s (by rw [vV,mA];exact .inl d)
  have tk: ∀s∈nm1 c,∀u,at' ((EnW f1 (fF r l1)).m u).told (trI l1 s)=at' ((EnW f2 (fF r l2)).m u).told (trI l2 s):=λs d u=>H.tk s (nm s d) u
  rw [jF,jF];rcases kinds F.k1 with e|e|e|e|e|e|e|e|e|e|e|e|e|e|e<;>rw [e]<;>simp only [mkK,Int.reduceEq,if_true,if_false,or_true,true_or,or_self]
  ·rw [den,den]
  ·rw [den,den]
  ·rw [den,den];exact numT_tk (tk c.Name (by unfold nm1;simp [e]) t) _ _
  ·rw [den,den];have d1:=H.dn c.Name (nm _ (by unfold nm1;simp [e]));have d2:=H.dn c.Other (nm _ (by unfold nm1;simp [e]));show pairT _ (trI l1 c.Name) (trI l1 c.Other) ((MkR r l1 0).dn (trI l1 c.Name)) ((MkR r l1 0).dn (trI l1 c.Other)) _=pairT _ (trI l2 c.Name) (trI l2 c.Other) ((MkR r l2 0).dn (trI l2 c.Name)) ((MkR r l2 0).dn (trI l2 c.Other)) _;rw [d1,d2];exact pairT_tk (tk c.Name (by unfold nm1;simp [e]) t) (tk c.Other (by unfold nm1;simp [e]) t) _
  ·rw [den,den];have w:win ((EnW f1 (fF r l1)).tk ((MkR r l1 i).tr c.Name)) c.Frames.toNat (t+1)=win ((EnW f2 (fF r l2)).tk ((MkR r l2 i).tr c.Name)) c.Frames.toNat (t+1):=aPw λs _=>by
    unfold En.tk;show(at' (f1 s) (trI l1 c.Name)).getD _=(at' (f2 s) (trI l2 c.Name)).getD _;rw [H.tk c.Name (nm _ (by unfold nm1;simp [e])) s]
   show stT _ _ (win _ _ _)=stT _ _ (win _ _ _);rw [w]
  ·rw [den,den];exact D.1 e t z
  ·rw [den,den];exact D.2 e t z
  ·obtain⟨x,b⟩:=bZ (gk.o (by omega));rw [b];show den _ (.not (mkN (MkR r l1 i) x)) t=den _ (.not (mkN (MkR r l2 i) x)) t;rw [den,den];show opp _=opp _;rw [p x (by rw [b];exact List.mem_cons_self) t z]
  ·rw [den,den];show List.foldl _ _ (dens _ _ t)=List.foldl _ _ (dens _ _ t);have w:List.map ((λk=>den (EnW f1 (fF r l1)) k t)∘mkN (MkR r l1 i)) c.Kids=List.map ((λk=>den (EnW f2 (fF r l2)) k t)∘mkN (MkR r l2 i)) c.Kids:=List.map_congr_left λx b=>p x b t z
   rw [uX,uX,List.map_map,List.map_map,w]
  ·rw [den,den];show List.foldl _ _ (dens _ _ t)=List.foldl _ _ (dens _ _ t);have w:List.map ((λk=>den (EnW f1 (fF r l1)) k t)∘mkN (MkR r l1 i)) c.Kids=List.map ((λk=>den (EnW f2 (fF r l2)) k t)∘mkN (MkR r l2 i)) c.Kids:=List.map_congr_left λx b=>p x b t z
   rw [uX,uX,List.map_map,List.map_map,w]
  ·obtain⟨x,b⟩:=bZ (gk.o (by omega));rw [b];show den _ (.count (mkN (MkR r l1 i) x) _ _ _ _) t=den _ (.count (mkN (MkR r l2 i) x) _ _ _ _) t;rw [den,den];show aAc _ _ (win _ _ _)=aAc _ _ (win _ _ _);rw [aPw λs d=>p x (by rw [b];exact List.mem_cons_self) s (by omega)]
  ·obtain⟨x,b⟩:=bZ (gk.o (by omega));rw [b];show den _ (.count (mkN (MkR r l1 i) x) _ _ _ _) t=den _ (.count (mkN (MkR r l2 i) x) _ _ _ _) t;rw [den,den];show aAc _ _ (win _ _ _)=aAc _ _ (win _ _ _);rw [aPw λs d=>p x (by rw [b];exact List.mem_cons_self) s (by omega)]
  ·obtain⟨x,b⟩:=bZ (gk.o (by omega));rw [b];show den _ (.count (mkN (MkR r l1 i) x) _ _ _ _) t=den _ (.count (mkN (MkR r l2 i) x) _ _ _ _) t;rw [den,den];show aAc _ _ (win _ _ _)=aAc _ _ (win _ _ _);rw [aPw λs d=>p x (by rw [b];exact List.mem_cons_self) s (by omega)]
  ·obtain⟨x,y,b⟩:=aBj (gk.t e);rw [b];show den _ (.since (mkN (MkR r l1 i) x) (mkN (MkR r l1 i) y) _ _) t=den _ (.since (mkN (MkR r l2 i) x) (mkN (MkR r l2 i) y) _ _) t;rw [den,den];exact aNr t (λs d=>p x (by rw [b];simp) s (by omega)) λs d=>p y (by rw [b];simp) s (by omega)
  ·obtain⟨x,b⟩:=bZ (gk.o (by omega));rw [b];show den _ (.rises (mkN (MkR r l1 i) x) _ _) t=den _ (.rises (mkN (MkR r l2 i) x) _ _) t;rw [den,den];show aAb _ (prv _ t)=aAb _ (prv _ t);have k:=p x (by rw [b];exact List.mem_cons_self);rw [k t z,prv_le λs d=>k s (by omega)]
end
theorem phaseT_ps {m m':gK}(h:m.possible=m'.possible)(p:Int):nN m p=nN m' p:=by
 obtain⟨a,b,_⟩:=m;obtain⟨_,d,_⟩:=m';obtain rfl:b=d:=h;rfl
theorem aLi {e:Type}{p:Int}{g g':e->fC}(b: ∀x,(g x).from_=(g' x).from_/\(g x).to=(g' x).to)(c:e->Int): ∀(l:List e) (d:List Bool),nK p (l.map λx=>(g x,c x)) d=nK p (l.map λx=>(g' x,c x)) d
 | [],_=>rfl
 |x::l,d=>by
  rw [List.map_cons,List.map_cons,nK,nK,(b x).1,(b x).2,aLi b c l d,aLi b c l]
theorem aTl {e:Type}{g g':e->fC}(h: ∀x,(g x).from_=(g' x).from_/\(g x).to=(g' x).to)(c:e->Int)(l:List e): ∀(ps:List Bool) (i:Nat) (d:List Bool),rX (l.map λx=>(g x,c x)) ps i d=rX (l.map λx=>(g' x,c x)) ps i d
 | [],_,_=>rfl
 |b::ps,i,d=>by
  rw [rX,rX,aTl h c l ps]
  congr 1
  unfold aBi;rw [aLi h c l d]
section
variable {r:Rules}{l1 l2:List gW}{f1 f2:Nat->List fB}
theorem mv_two (H:aRy r l1 l2 f1 f2){m:eY}(hm:m∈r.Moves)(t:Nat):den (EnW f1 (fF r l1)) (mkN (MkR r l1 0) m.When) t=den (EnW f2 (fF r l2)) (mkN (MkR r l2 0) m.When) t:=by
 obtain⟨a,b,c⟩:=bAr H.g1 hm;refine aQm H 0 pMv t (λc d=>?_) (dN m.When) m.When (Nat.le_refl _) a b c t (Nat.le_refl _);unfold pMv at d;constructor<;>(intro e;rw [e]at d;simp at d)
theorem ps_two (H:aRy r l1 l2 f1 f2): ∀t,(EnW f1 (fF r l1)).ps t=(EnW f2 (fF r l2)).ps t:=by
 have step: ∀t,psB (EnW f1 (fF r l1)) (fF r l1) t=psB (EnW f2 (fF r l2)) (fF r l2) t->(EnW f1 (fF r l1)).ps t=(EnW f2 (fF r l2)).ps t:=by
  intro t b;rw [ps_A (rY H.g1) H.h1.len (aAj H.g1 f1),ps_A (rY H.g2) H.h2.len (aAj H.g2 f2),b];show rX ((r.Moves.map (mvN r l1)).map _) _ _ _=rX ((r.Moves.map (mvN r l2)).map _) _ _ _;rw [List.map_map,List.map_map];have e:r.Moves.map ((λx:fC=>(x,den (EnW f1 (fF r l1)) x.when t))∘mvN r l1)=r.Moves.map λm=>(mvN r l1 m,den (EnW f2 (fF r l2)) (mkN (MkR r l2 0) m.When) t):=List.map_congr_left λm hm=>by
   show(mvN r l1 m,den _ (mkN (MkR r l1 0) m.When) t)=_;rw [mv_two H hm t]
  rw [e];exact aTl (g:=mvN r l1) (g':=mvN r l2) (λm=>⟨rfl,rfl⟩) (λm=>den (EnW f2 (fF r l2)) (mkN (MkR r l2 0) m.When) t) r.Moves _ _ _
 intro t
 induction t with
 |zero=>exact step 0 rfl
 |succ t c=>exact step (t+1) c
theorem aXx (H:aRy r l1 l2 f1 f2): ∀(T i:Nat),∀t,t<=T-> ∀(j:Nat) y,j<i->r.Rules[j]? =some y->at' ((EnW f1 (fF r l1)).rl t) (j:Int)=at' ((EnW f2 (fF r l2)).rl t) (j:Int)
 |T,0,_,_,j,_,h,_=>by omega
 |T,i+1,t,d,j,y,u,k=>by
  by_cases c:j<i
  ·exact aXx H T i t d j y c k
  ·obtain rfl:j=i:=by omega
   rw [aRw H.g1 H.h1 k t,aRw H.g2 H.h2 k t];obtain⟨a,b,c⟩:=bAe H.g1 k;refine congrArg some (aQm H j (pRl r j) T (λc o=>⟨λ_ t d=>phaseT_ps (ps_two H t) _,λe t d=>?_⟩) (dN y.When) y.When (Nat.le_refl _) a b c t d);obtain⟨n,x,-,p,q,s,-⟩:=ru_at (l:=l1) ((aAz j o).2 e);rw [p];unfold aBv;show(at' ((EnW f1 (fF r l1)).rl t) (n:Int)).getD 0=(at' ((EnW f2 (fF r l2)).rl t) (n:Int)).getD 0;rw [aXx H T j t d n x q s]
theorem rls_two (H:aRy r l1 l2 f1 f2) (t:Nat):(EnW f1 (fF r l1)).rl t=(EnW f2 (fF r l2)).rl t:=by
 have b:((EnW f1 (fF r l1)).rl t).length=r.Rules.length:=by
  show(nxt (f1 t) (runT f1 (fF r l1) t).2).1.length=_;rw [(aAi _ _).1];exact(show(runT f1 (fF r l1) t).2.rules.length=r.Rules.length from by
   rw [(aZw (rY H.g1) H.h1.len (aAj H.g1 f1) t).2.2,List.length_map];show(r.Rules.mapIdx _).length=_;simp)
 have d:((EnW f2 (fF r l2)).rl t).length=r.Rules.length:=by
  show(nxt (f2 t) (runT f2 (fF r l2) t).2).1.length=_;rw [(aAi _ _).1];exact(show(runT f2 (fF r l2) t).2.rules.length=r.Rules.length from by
   rw [(aZw (rY H.g2) H.h2.len (aAj H.g2 f2) t).2.2,List.length_map];show(r.Rules.mapIdx _).length=_;simp)
 apply List.ext_getElem?;intro j
 by_cases c:j<r.Rules.length
 ·have q:=aXx H t r.Rules.length t (Nat.le_refl _) j _ c (gE c);rw [jA,jA]at q;exact q
 ·rw [List.getElem?_eq_none (by omega),List.getElem?_eq_none (by omega)]
theorem bBp (H:aRy r l1 l2 f1 f2): ∀n,(runT f1 (fF r l1) n).1=(runT f2 (fF r l2) n).1
 |0=>rfl
 |n+1=>by
  show(runT f1 (fF r l1) n).1++[(EnW f1 (fF r l1)).rl n]=(runT f2 (fF r l2) n).1++[(EnW f2 (fF r l2)).rl n];rw [bBp H n,rls_two H n]
theorem phs_two (H:aRy r l1 l2 f1 f2)(n:Nat):(runT f1 (fF r l1) n).2.possible=(runT f2 (fF r l2) n).2.possible:=by
 rw [aFb,aFb]
 cases n with
 |zero=>rfl
 |succ n=>exact ps_two H n
end
def tel (l:List gW)(a:Int)(k:Nat):List fB:=l.map (inT (a+(k:Int)))
theorem aQr (l:List gW)(a:Int)(k:Nat):(tel l a k).length=l.length:=by unfold tel;rw [List.length_map]
def spn (a b:Int):Nat:=(b-a+1).toNat
def cols (m:Nat)(rows:List (List Int)):List (List Int):=(List.range m).map λi=>rows.map λrow=>row.getD i 0
theorem aVd {m:Nat}{rows:List (List Int)}{i:Nat}(h:i<m):(cols m rows)[i]? =some (rows.map λrow=>row.getD i 0):=by
 unfold cols;rw [List.getElem?_map,List.getElem?_range h];rfl
theorem wR (m:Nat)(rows:List (List Int)):(cols m rows).length=m:=by unfold cols;simp
theorem aTw {r:Rules}{l:List gW}(h:GB r l){a:Int}(k:Nat)(q:0<=a)(s:a+k<=4194303):
  Fcu l (a+(k:Int))=some (tel l a k)/\Fbg (runT (tel l a) (fF r l) k).2 (tel l a k)=some (nxt (tel l a k) (runT (tel l a) (fF r l) k).2)/\
  Fa4 (nxt (tel l a k) (runT (tel l a) (fF r l) k).2).2=some (phL (runT (tel l a) (fF r l) (k+1)).2.possible r.Phases):=by
 have c:=rY h;have d:=aIp (f:=tel l a) c (aQr l a) k;obtain⟨j,o,_,_⟩:=aPx d (aQr l a k);refine⟨inputs_eq l _ h.t (by omega) (by omega),j,?_⟩;rw [Phase_eq o];have e: ∀n,(runT (tel l a) (fF r l) n).2.phases=r.Phases:=by
  intro n
  induction n with
  |zero=>rfl
  |succ n p=>exact p
 have b:=e (k+1);change (nxt (tel l a k) (runT (tel l a) (fF r l) k).2).2.phases=_ at b;rw [b];rfl
theorem aYm {r:Rules}{l:List gW}(f:Nat->List fB): ∀n,(runT f (fF r l) n).2.rules.length=r.Rules.length
 |0=>by show(r.Rules.mapIdx _).length=_;simp
 |n+1=>by
  show(nxt (f n) (runT f (fF r l) n).2).2.rules.length=_;rw [(aAi _ _).2,aYm f n]
def evV (r:Rules)(l:List gW)(a b:Int):List (List Int):=cols r.Rules.length (runT (tel l a) (fF r l) (spn a b)).1
def aEi (r:Rules)(l:List gW)(a:Int)(k:Nat):List Str:=phL (runT (tel l a) (fF r l) (k+1)).2.possible r.Phases
def evP (r:Rules)(l:List gW)(a b:Int):List (List Str):=(List.range (spn a b)).map (aEi r l a)
theorem aXo (s:Series) (t:Int) (d:Asc s.Samples) (w:s.Samples.length<=20000):
  Ffl s t (0,(s.Samples.length:Int))=some (kLe s.Samples t:Int):=by
 unfold Ffl fD;refine bAf (kLe s.Samples t) s.Samples.length _ ?_ ?_ s.Samples.length 0 s.Samples.length FU (by omega) (Nat.zero_le _) (xY _ _) (Nat.le_refl _) (jO (by omega))
 ·intro k lo hi e j _ _;obtain⟨_,b⟩:=mid_ok e j;have o:IntKind.i64.wrap ((lo:Int)+(hi:Int))=((lo+hi:Nat):Int):=by rw [Go.OB.wrap_i64 (by omega) (by omega)];omega
  have p:quo' .i64 ((lo+hi:Nat):Int) 2=some (((lo+hi)/2:Nat):Int):=by
   unfold quo';rw [if_neg (by omega),Int.tdiv_eq_ediv_of_nonneg (by omega),Go.OB.wrap_i64 (by omega) (by omega)]
   congr 1
  have u:IntKind.i64.wrap ((((lo+hi)/2:Nat):Int)+1)=(((lo+hi)/2+1:Nat):Int):=fP (n:=20000) (by omega) (by omega);simp only [zG,dT (show(lo:Int)<(hi:Int)by omega),zS,o,p,zA,jA,b,u,xC];have q:=aEj d t b
  by_cases c:(lo+hi)/2<kLe s.Samples t
  ·rw [if_pos c,if_pos (q.2 c)]
  ·rw [if_neg c,if_neg (λh=>c (q.1 h))]
 ·intro k;simp only [zG,qD (show¬((kLe s.Samples t:Int)<(kLe s.Samples t:Int))by omega),zM]
theorem rHeld_eq (s:Series)(t g:Int)(c:Asc s.Samples)(d:s.Samples.length<=20000):Fd2 s t g=some (hld s t g):=by
 unfold Fd2 hld;have h:=xY (λx:eH=>decide (x.At<=t)) s.Samples;change kLe s.Samples t<=_ at h;simp only [zG,aXo s t c d,zA];generalize kLe s.Samples t=n at *
 cases n with
 |zero=>rfl
 |succ n=>
  obtain⟨x,j⟩: ∃x,s.Samples[n]? =some x:=⟨_,gE (by omega)⟩;have e:IntKind.i64.wrap (((n+1:Nat):Int)-1)=(n:Int):=by rw [Go.OB.wrap_i64 (by omega) (by omega)];omega
  simp only [qD (show¬(((n+1:Nat):Int)=0)by omega),zM,e,jA,j,zA,Fhf,zG];generalize decide (3<=x.Mark)=a;generalize decide (g<IntKind.i64.wrap (t-x.At))=b
  cases a<;>cases b<;>rfl
theorem aXw (l:List gW) (n:Int) (h:TK l) (c:0<=n) (d:n<=4194303):Fa3 l n=some (l.map (inT n)):=by
 obtain⟨_,e⟩:=aLj h;unfold Fa3 Fhv;simp only [zG];rw [show(([]:List fB),(0:Int))=(λ(i:Nat)=>((l.take i).map (inT n),(i:Int))) 0 by simp];rw [xJ (λ(i:Nat)=>((l.take i).map (inT n),(i:Int))) l (some (l.map (inT n))) (by omega) ?_ ?_];rfl;intro k i x b hi;obtain⟨g1,g2,g3⟩:=e i x b;simp only [aZu c d];rw [yP hi,zS,yH b,zA,zA,rHeld_eq _ _ _ g1 g2,zA];rw [apT _ _ (by simp;omega),zA,fP hi (by omega),kG b,List.map_append];rfl;intro k;rw [yO,zM,List.take_length]
theorem bBf {l:List gW} (h:TK l) (a:Int):FrI l (tel l a):=by
 refine⟨λt=>aQr l a t,λt _ b=>?_⟩;unfold tel at b;obtain⟨y,d,rfl⟩:=List.mem_map.1 b;obtain⟨i,hi⟩:=List.getElem?_of_mem d;have e:=((aZe y.Series).1 (h.s i y hi)).2.2;show _<=(hld y.Series _ y.Long).1.N/\(hld y.Series _ y.Long).1.N<=_;unfold hld;split;exact⟨by decide,by decide⟩;rename_i n _;split;rename_i z j;split;exact⟨by decide,by decide⟩;have q:=e n z j;unfold aQz at q;split at q;exact absurd q (by decide);rename_i c;simp only [Bool.or_eq_true,Bool.not_eq_true',Bool.and_eq_false_iff,decide_eq_false_iff_not]at c;show _<=z.N/\z.N<=_;omega;exact⟨by decide,by decide⟩
theorem mk_cols (m:Nat)(h:m<=2000000):make' 24 (m:Int) ([]:List Int)=some (cols m []):=by
 unfold make';rw [if_pos ⟨by omega,by omega,by omega⟩,Int.toNat_natCast];unfold cols;congr 1;apply List.ext_getElem?;intro i;rw [List.getElem?_replicate,List.getElem?_map];by_cases c:i<m;rw [if_pos c,List.getElem?_range c];rfl;rw [if_neg c,List.getElem?_eq_none (by simp;omega)];rfl
section
variable {r:Rules}{l:List gW}
theorem truths_L2 (h:GB r l) {v:gG} (rows:List (List Int)) (ts:List Int) (q:rows.length<=100000) (d:ts.length=r.Rules.length)
  (e: ∀(j:Nat) y,r.Rules[j]? =some y-> ∃k x,at' v.rules (j:Int)=some k/\at' v.nodes k=some x/\at' ts (j:Int)=some x.now):
  Fdt r v (0,cols r.Rules.length rows)=some (v.r.Phases,v.r.Moves,v.r.Rules,v.names,v.dens,v.told,v.frames,v.phase,v.nodes,v.first,v.moves,v.rules,cols r.Rules.length (rows++[ts])):=by
 have hm:=h.g.l;unfold Fdt;have n: ∀i,i<r.Rules.length->(cols r.Rules.length (rows++[ts])).take i++(cols r.Rules.length rows).drop i=(cols r.Rules.length (rows++[ts])).take i++(rows.map λrow=>row.getD i 0)::(cols r.Rules.length rows).drop (i+1):=λi hi=>by
  rw [List.drop_eq_getElem_cons (by rw [wR];exact hi)];have:=aVd (rows:=rows) hi;rw [gE (by rw [wR];exact hi)]at this;rw [oI this]
 refine(xJ (λ(i:Nat)=>((i:Int),(cols r.Rules.length (rows++[ts])).take i++(cols r.Rules.length rows).drop i)) r.Rules (some (v.r.Phases,v.r.Moves,v.r.Rules,v.names,v.dens,v.told,v.frames,v.phase,v.nodes,v.first,v.moves,v.rules,cols r.Rules.length (rows++[ts]))) (by omega) ?_ ?_)
 ·intro k i y o hi;obtain⟨_,x,v1,v2,v3⟩:=e i y o;have b:((cols r.Rules.length (rows++[ts])).take i).length=i:=by rw [List.length_take,wR];omega
  rw [jA]at v3;have c:ts.getD i 0=x.now:=by rw [List.getD_eq_getElem?_getD,v3];rfl
  have p:(cols r.Rules.length (rows++[ts]))[i]? =some ((rows.map λrow=>row.getD i 0)++[x.now]):=by
   rw [aVd (by omega),List.map_append,List.map_singleton,c]
  simp only [zG];rw [yP hi,zS,n i (by omega),aMp _ _ _ i b];simp only [zA];rw [v1,zA,v2,zA,ap8 (by rw [List.length_map];omega),zA,aLr _ _ _ _ i b,zA,fP hi (by omega),kG p,List.append_assoc];rfl
 ·intro k;simp only [zG];rw [yO,zM,List.take_of_length_le (by rw [wR];exact Nat.le_refl _),List.drop_eq_nil_of_le (by rw [wR];exact Nat.le_refl _),List.append_nil]
theorem aHe (h:GB r l){a:Int}(k:Nat)(b:0<=a)(c:a+k<=4194303):Fa3 l (a+(k:Int))=some (tel l a k):=aXw l _ h.t (by omega) (by omega)
theorem truths_L1 (h:GB r l){a b:Int}(M:aHj a b=0):Ffj r l b (a,(ev0 r l).r.Phases,(ev0 r l).r.Moves,(ev0 r l).r.Rules,(ev0 r l).names,(ev0 r l).dens,(ev0 r l).told,(ev0 r l).frames,(ev0 r l).phase,(ev0 r l).nodes,(ev0 r l).first,(ev0 r l).moves,(ev0 r l).rules,cols r.Rules.length [])=some (evV r l a b):=by
 obtain⟨s1,_,_,_⟩:=aZd M;have N:=bBf h.t a;have hn:spn a b=(b-a+1).toNat:=rfl;unfold Ffj;have q:=aJ (body:=λc (s:Int×(List Str)×(List eY)×(List Rule)×(List Str)×(List Int)×(List fB)×Int×(List Bool)×(List gI)×Int×(List Int)×(List Int)×(List (List Int)))=>
   gJ (decide (s.1<=b)) λd=>
   gQ d
   (gB (gB (Fa3 l s.1) λe=>
   gB (Fao (gG.mk (Rules.mk s.2.1 s.2.2.1 s.2.2.2.1) s.2.2.2.2.1 s.2.2.2.2.2.1 s.2.2.2.2.2.2.1 s.2.2.2.2.2.2.2.1 s.2.2.2.2.2.2.2.2.1 s.2.2.2.2.2.2.2.2.2.1 s.2.2.2.2.2.2.2.2.2.2.1 s.2.2.2.2.2.2.2.2.2.2.2.1 s.2.2.2.2.2.2.2.2.2.2.2.2.1) e) λj=>
   Fdt r j (0,s.2.2.2.2.2.2.2.2.2.2.2.2.2)) λ⟨k,n,o,p,w,x,y,A,B,C,D,E,F⟩=>
   gJ (IntKind.i64.wrap (s.1+1)) λG=>
   c (G,k,n,o,p,w,x,y,A,B,C,D,E,F))
   (some s.2.2.2.2.2.2.2.2.2.2.2.2.2))
  (λ(i:Nat) (s:gG×List (List Int))=>(a+(i:Int),s.1.r.Phases,s.1.r.Moves,s.1.r.Rules,s.1.names,s.1.dens,s.1.told,s.1.frames,s.1.phase,s.1.nodes,s.1.first,s.1.moves,s.1.rules,s.2)) (List.replicate (spn a b) ())
  (λi s=>EvI r l (tel l a) i s.1/\s.2=cols r.Rules.length (runT (tel l a) (fF r l) i).1) (λz=>z=evV r l a b) (by rw [List.length_replicate];omega)
  (λO i s _ P _ H=>by
   have Q:=aIz P;obtain⟨R,i2⟩:=H;obtain⟨I,S,T,_,_,X⟩:=next_6 h N R (by omega);have J:((EnW (tel l a) (fF r l)).rl i).length=r.Rules.length:=by
    show(nxt (tel l a i) (runT (tel l a) (fF r l) i).2).1.length=_;rw [(aAi _ _).1,aYm]
   have t2:=truths_L2 h (v:=I) (runT (tel l a) (fF r l) i).1 ((EnW (tel l a) (fF r l)).rl i) (by rw [aMb];omega) J X;refine⟨(I,cols r.Rules.length (runT (tel l a) (fF r l) (i+1)).1),⟨T,rfl⟩,?_⟩;simp only [zG];rw [dT (by omega:a+(i:Int)<=b),zS,aHe h i s1 (by omega),zA];have K:Fao (gG.mk (Rules.mk s.1.r.Phases s.1.r.Moves s.1.r.Rules) s.1.names s.1.dens s.1.told s.1.frames s.1.phase s.1.nodes s.1.first s.1.moves s.1.rules) (tel l a i)=some I:=S;rw [K,zA,i2,t2,zA,wrap_i64 (by omega) (by omega),show a+(i:Int)+1=a+((i+1:Nat):Int)by omega];rfl)
  (λO s H=>by
   rw [List.length_replicate]at H⊢;simp only [zG];rw [qD (by omega: ¬a+((spn a b:Nat):Int)<=b),zM];exact⟨_,rfl,H.2⟩) (ev0 r l,cols r.Rules.length []) ⟨aSt h _,rfl⟩
 obtain⟨z,L,Y⟩:=q;rw [Y]at L;rw [show(a,(ev0 r l).r.Phases,(ev0 r l).r.Moves,(ev0 r l).r.Rules,(ev0 r l).names,(ev0 r l).dens,(ev0 r l).told,(ev0 r l).frames,(ev0 r l).phase,(ev0 r l).nodes,(ev0 r l).first,(ev0 r l).moves,(ev0 r l).rules,cols r.Rules.length ([]:List (List Int)))=(a+((0:Nat):Int),(ev0 r l).r.Phases,(ev0 r l).r.Moves,(ev0 r l).r.Rules,(ev0 r l).names,(ev0 r l).dens,(ev0 r l).told,(ev0 r l).frames,(ev0 r l).phase,(ev0 r l).nodes,(ev0 r l).first,(ev0 r l).moves,(ev0 r l).rules,cols r.Rules.length ([]:List (List Int)))by simp];exact L
theorem aOb (h:GB r l){a b:Int}(c:aHj a b=0):Fcy r l a b=some (evV r l a b):=by
 unfold Fcy;simp only [zG];rw [aVw h,zA,mk_cols _ (by have:=h.g.l;omega),zA,truths_L1 h c,zA]
end
theorem named_eq6 {v:gG}{ss:List Str} (bs:List Bool) (k:v.r.Phases=ss) (h:bs.length=ss.length) (q:ss.length<=20):Fbq v bs=some (phL bs ss):=by
 have c:Ffv v bs ([],0)=some (phL bs ss):=by
  unfold Ffv;have n:(([]:List Str),(0:Int))=(λ(i:Nat)=>(phL (bs.take i) (ss.take i),(i:Int))) 0:=by
   show _=(phL (bs.take 0) (ss.take 0),((0:Nat):Int));rw [List.take_zero,List.take_zero];rfl
  rw [n];refine xJ (λ(i:Nat)=>(phL (bs.take i) (ss.take i),(i:Int))) bs _ (by omega) ?_ ?_
  ·intro o i b d hi;obtain⟨s,e⟩: ∃s,ss[i]? =some s:=⟨_,gE (by omega)⟩;have t1:bs.take (i+1)=bs.take i++[b]:=kG d;have t2:ss.take (i+1)=ss.take i++[s]:=kG e;have j:=aJa (bs.take i) (ss.take i);have p:(ss.take i).length<=20:=by rw [List.length_take];omega
   simp only [zG];rw [yP hi,zS,yH d,zA,fP hi (by omega),t1,t2,aFu b s _ _ (by rw [List.length_take,List.length_take,h])]
   cases b
   ·rw [zM,zA,if_neg (by decide),List.append_nil]
   ·rw [zS,k,yH e,zA,ap16x _ _ (by omega),zA,zA,if_pos rfl]
  ·intro o;simp only [zG];rw [yO,zM,List.take_length,List.take_of_length_le (by omega)]
 unfold Fbq;rw [c,zA]
theorem ap24x {b:Type}(l:List b)(x:b)(h:l.length<=1000000):app' 24 l [x]=some (l++[x]):=by
 unfold app';rw [if_pos];constructor;simp [maxLen];omega;simp;omega
section
variable {r:Rules}{l:List gW}
theorem phases_L1 (h:GB r l){a b:Int}(H:aHj a b=0):Fg5 l b ([],a,(ev0 r l).r.Phases,(ev0 r l).r.Moves,(ev0 r l).r.Rules,(ev0 r l).names,(ev0 r l).dens,(ev0 r l).told,(ev0 r l).frames,(ev0 r l).phase,(ev0 r l).nodes,(ev0 r l).first,(ev0 r l).moves,(ev0 r l).rules)=some (evP r l a b):=by
 obtain⟨s1,_,_,_⟩:=aZd H;have D:=bBf h.t a;have Q:spn a b=(b-a+1).toNat:=rfl;unfold Fg5;have q:=aJ (body:=λk (s:(List (List Str))×Int×(List Str)×(List eY)×(List Rule)×(List Str)×(List Int)×(List fB)×Int×(List Bool)×(List gI)×Int×(List Int)×(List Int))=>
   gJ (decide (s.2.1<=b)) λn=>
   gQ n
   (gB (Fa3 l s.2.1) λo=>
   gB (Fao (gG.mk (Rules.mk s.2.2.1 s.2.2.2.1 s.2.2.2.2.1) s.2.2.2.2.2.1 s.2.2.2.2.2.2.1 s.2.2.2.2.2.2.2.1 s.2.2.2.2.2.2.2.2.1 s.2.2.2.2.2.2.2.2.2.1 s.2.2.2.2.2.2.2.2.2.2.1 s.2.2.2.2.2.2.2.2.2.2.2.1 s.2.2.2.2.2.2.2.2.2.2.2.2.1 s.2.2.2.2.2.2.2.2.2.2.2.2.2) o) λc=>
   gB (Fbq (gG.mk (Rules.mk c.r.Phases c.r.Moves c.r.Rules) c.names c.dens c.told c.frames c.phase c.nodes c.first c.moves c.rules) c.phase) λj=>
   gJ ([j]:List (List Str)) λ_=>
   gB (app' 24 s.1 ([j]:List (List Str))) λw=>
   gJ (IntKind.i64.wrap (s.2.1+1)) λx=>
   k (w,x,c.r.Phases,c.r.Moves,c.r.Rules,c.names,c.dens,c.told,c.frames,c.phase,c.nodes,c.first,c.moves,c.rules))
   (some s.1))
  (λ(i:Nat) (s:gG×List (List Str))=>(s.2,a+(i:Int),s.1.r.Phases,s.1.r.Moves,s.1.r.Rules,s.1.names,s.1.dens,s.1.told,s.1.frames,s.1.phase,s.1.nodes,s.1.first,s.1.moves,s.1.rules)) (List.replicate (spn a b) ())
  (λi s=>EvI r l (tel l a) i s.1/\s.2=(List.range i).map (aEi r l a)) (λz=>z=evP r l a b) (by rw [List.length_replicate];omega)
  (λI i s _ J _ y=>by
   have K:=aIz J;obtain⟨L,i2⟩:=y;obtain⟨d,M,E,F,_,_⟩:=next_6 h D L (by omega);have A:d.phase.length=r.Phases.length:=by rw [F];exact aRu h D i
   have nm:=named_eq6 (v:=d) (ss:=r.Phases) d.phase (by rw [E.rs]) A h.g.p;have B:Fbq (gG.mk (Rules.mk d.r.Phases d.r.Moves d.r.Rules) d.names d.dens d.told d.frames d.phase d.nodes d.first d.moves d.rules) d.phase=some (phL d.phase r.Phases):=nm;have ph:phL d.phase r.Phases=aEi r l a i:=by
    rw [F];unfold aEi;rw [aFb];rfl
   refine⟨(d,(List.range (i+1)).map (aEi r l a)),⟨E,rfl⟩,?_⟩;simp only [zG];rw [dT (by omega:a+(i:Int)<=b),zS,aHe h i s1 (by omega),zA];have C:Fao (gG.mk (Rules.mk s.1.r.Phases s.1.r.Moves s.1.r.Rules) s.1.names s.1.dens s.1.told s.1.frames s.1.phase s.1.nodes s.1.first s.1.moves s.1.rules) (tel l a i)=some d:=M;rw [C,zA,B,zA,i2,ap24x _ _ (by rw [List.length_map,List.length_range];omega),zA,wrap_i64 (by omega) (by omega),show a+(i:Int)+1=a+((i+1:Nat):Int)by omega,ph,List.range_succ,List.map_append];rfl)
  (λI s y=>by
   rw [List.length_replicate]at y⊢;simp only [zG];rw [qD (by omega: ¬a+((spn a b:Nat):Int)<=b),zM];exact⟨_,rfl,y.2⟩) (ev0 r l,[]) ⟨aSt h _,rfl⟩
 obtain⟨z,G,N⟩:=q;rw [N]at G;have e:(([]:List (List Str)),a,(ev0 r l).r.Phases,(ev0 r l).r.Moves,(ev0 r l).r.Rules,(ev0 r l).names,(ev0 r l).dens,(ev0 r l).told,(ev0 r l).frames,(ev0 r l).phase,(ev0 r l).nodes,(ev0 r l).first,(ev0 r l).moves,(ev0 r l).rules)=(([]:List (List Str)),a+((0:Nat):Int),(ev0 r l).r.Phases,(ev0 r l).r.Moves,(ev0 r l).r.Rules,(ev0 r l).names,(ev0 r l).dens,(ev0 r l).told,(ev0 r l).frames,(ev0 r l).phase,(ev0 r l).nodes,(ev0 r l).first,(ev0 r l).moves,(ev0 r l).rules):=by simp
 rw [e];exact G
theorem aUc (h:GB r l){a b:Int}(c:aHj a b=0):Fec r l a b=some (evP r l a b):=by
 unfold Fec;rw [aVw h,zA,phases_L1 h c,zA]
end
inductive aNj (a i:Int) (l:List Int):Nat->List fJ->Prop
 |done {t:Nat} (h:l.length<=t):aNj a i l t []
 |skip {t:Nat}{es:List fJ} (h:t<l.length) (h2:l[t]? ≠some 2) (k:aNj a i l (t+1) es):aNj a i l t es
 |run {t e:Nat}{es:List fJ} (h:t<=e) (h2: ∀s,t<=s->s<=e->l[s]? =some 2) (h3:l[e+1]? ≠some 2) (k:aNj a i l (e+1) es):
   aNj a i l t (fJ.mk i (a+(t:Int)) (a+(e:Int)) (decide (0<t/\l[t-1]? =some 1)) (decide (l[e+1]? =some 1))::es)
theorem run_end (l:List Int): ∀(d t:Nat),l.length-t<=d->l[t]? =some 2-> ∃e,t<=e/\(∀s,t<=s->s<=e->l[s]? =some 2)/\l[e+1]? ≠some 2
 |0,t,hd,h=>by have:=(gS.1 h).1;omega
 |d+1,t,hd,h=>by
  have o:=(gS.1 h).1
  by_cases c:l[t+1]? =some 2
  ·obtain⟨e,_,j,k⟩:=run_end l d (t+1) (by omega) c;refine⟨e,by omega,λs n b=>?_,k⟩
   by_cases q:s=t
   ·rw [q];exact h
   ·exact j s (by omega) b
  ·refine⟨t,Nat.le_refl _,λs n b=>?_,c⟩;have:s=t:=by omega
   rw [this];exact h
theorem aWg (a i:Int) (l:List Int): ∀(d t:Nat),l.length-t<=d-> ∃b,aNj a i l t b/\b.length<=l.length-t
 |0,t,hd=>⟨[],.done (by omega),Nat.zero_le _⟩
 |d+1,t,hd=>by
  by_cases c:l.length<=t
  ·exact⟨[],.done c,Nat.zero_le _⟩
  by_cases q:l[t]? =some 2
  ·obtain⟨e,j,k,n⟩:=run_end l l.length t (by omega) q;have p:=(gS.1 (k e j (Nat.le_refl _))).1;obtain⟨b,h,o⟩:=aWg a i l d (e+1) (by omega);exact⟨_,.run j k n h,by rw [List.length_cons];omega⟩
  ·obtain⟨b,h,o⟩:=aWg a i l d (t+1) (by omega);exact⟨b,.skip (by omega) q h,by omega⟩
theorem ap32x {b:Type}(l:List b)(x:b)(h:l.length<=100000000):app' 32 l [x]=some (l++[x]):=by
 unfold app';rw [if_pos];constructor;simp [maxLen];omega;simp;omega
theorem at_one {l:List Int}{s:Nat}{x:Int}(h:l[s]? =some x):decide (x=1)=decide (l[s]? =some 1):=by rw [h];simp
theorem at_no {l:List Int}{s:Nat}(h:l.length<=s):false=decide (l[s]? =some 1):=by rw [List.getElem?_eq_none h];simp
def aNb (p0:List (List Int))(p1 c:Int):((List fJ)×Int->Option (List fJ))->(List fJ)×Int->Option (List fJ):=λs ⟨e,b⟩=>
 gB (at' p0 c) λu=>
 gJ (u.length:Int) λw=>
 gJ (decide (b<w)) λx=>
 gQ x
 (gB (gB (at' p0 c) λy=>
 gB (at' y b) λz=>
 gJ (decide (z≠2)) λA=>
 gQ A
 (some e)
 (gB (gB (gJ (decide (b=0)) λB=>
 gQ B
 (some true)
 (gB (at' p0 c) λC=>
 gJ (IntKind.i64.wrap (b-1)) λD=>
 gB (at' C D) λE=>
 gJ (decide (E≠2)) λF=>
 some F)) λG=>
 gQ G
 (gJ (IntKind.i64.wrap (p1+b)) λh=>
 gJ (decide (0<b)) λH=>
 gQ H
 (gB (at' p0 c) λI=>
 gJ (IntKind.i64.wrap (b-1)) λJ=>
 gB (at' I J) λK=>
 gJ (decide (K=1)) λq=>
 gJ ([fJ.mk c h 0 q false]:List fJ) λ_=>
 gB (app' 32 e ([fJ.mk c h 0 q false]:List fJ)) λL=>
 some L)
 (gJ ([fJ.mk c h 0 false false]:List fJ) λ_=>
 gB (app' 32 e ([fJ.mk c h 0 false false]:List fJ)) λM=>
 some M))
 (some e)) λp=>
 gJ (p.length:Int) λN=>
 gJ (IntKind.i64.wrap (N-1)) λd=>
 gJ (IntKind.i64.wrap (p1+b)) λO=>
 gB (at' p d) λj=>
 gB (set' p d (fJ.mk j.Rule j.From O j.Begins j.Ends)) λk=>
 gJ (IntKind.i64.wrap (b+1)) λP=>
 gB (at' p0 c) λQ=>
 gJ (Q.length:Int) λR=>
 gJ (decide (P<R)) λS=>
 gQ S
 (gB (at' p0 c) λT=>
 gJ (IntKind.i64.wrap (b+1)) λX=>
 gB (at' T X) λY=>
 gJ (decide (Y=1)) λaa=>
 gB (at' k d) λn=>
 gB (set' k d (fJ.mk n.Rule n.From n.To n.Begins aa)) λab=>
 some ab)
 (gB (at' k d) λo=>
 gB (set' k d (fJ.mk o.Rule o.From o.To o.Begins false)) λac=>
 some ac))) λad=>
 gJ (IntKind.i64.wrap (b+1)) λae=>
 s (ad,ae))
 (some e)
def aQd (D:List (List Int))(E n j:Int)(k:List fJ):Option (List fJ):=
 gJ (k.length:Int) λo=>
 gJ (IntKind.i64.wrap (o-1)) λb=>
 gJ (IntKind.i64.wrap (E+j)) λp=>
 gB (at' k b) λc=>
 gB (set' k b (fJ.mk c.Rule c.From p c.Begins c.Ends)) λd=>
 gJ (IntKind.i64.wrap (j+1)) λq=>
 gB (at' D n) λs=>
 gJ (s.length:Int) λu=>
 gJ (decide (q<u)) λw=>
 gQ w
 (gB (at' D n) λx=>
 gJ (IntKind.i64.wrap (j+1)) λy=>
 gB (at' x y) λz=>
 gJ (decide (z=1)) λA=>
 gB (at' d b) λe=>
 gB (set' d b (fJ.mk e.Rule e.From e.To e.Begins A)) λB=>
 some B)
 (gB (at' d b) λh=>
 gB (set' d b (fJ.mk h.Rule h.From h.To h.Begins false)) λC=>
 some C)
section
variable {a:Int}{ls:List (List Int)}{l:List Int}{i:Nat}
theorem aNm (k:0<=a/\a<=4194304) (o:l.length<=1000000) (e:ls[i]? =some l) {t:Nat} (h:t<l.length) (b:List fJ) (x:fJ) (p:b.length<=100000000):
  aQd ls a (i:Int) (t:Int) (b++[x])=some (b++[fJ.mk x.Rule x.From (a+(t:Int)) x.Begins (decide (l[t+1]? =some 1))]):=by
 have j:IntKind.i64.wrap (((b++[x]).length:Int)-1)=(b.length:Int):=by
  rw [List.length_append,List.length_singleton,wrap_i64 (by omega) (by omega)];omega
 have s: ∀y z:fJ,set' (b++[y]) (b.length:Int) z=some (b++[z]):=λy z=>aLr b y z [] b.length rfl
 have g: ∀y:fJ,at' (b++[y]) (b.length:Int)=some y:=λy=>aMp b y [] b.length rfl
 unfold aQd;simp only [zG];rw [j,g,zA,s,zA,fP h (by omega),wrap_i64 (n:=a+(t:Int)) (by omega) (by omega),yH e,zA,g,zA]
 by_cases c:t+1<l.length
 ·obtain⟨y,d⟩: ∃y,l[t+1]? =some y:=⟨_,gE c⟩;rw [dT (by omega),zS,yH d,zA,zA,s,zA,at_one d]
 ·rw [qD (by omega),zM,zA,s,zA,<-at_no (by omega)]
theorem aVf (k:0<=a/\a<=4194304)(o:l.length<=1000000)(c:ls[i]? =some l){e:Nat}(m0:Nat)(j b:List fJ)(z:b.length<90000000)(p: ∀(y:fJ) (m:Nat),m0<m->eP (aNb ls a (i:Int)) m (b++[y],((e+1:Nat):Int))=some (b++[y]++j)):
  ∀(d t:Nat) (x:fJ) (m:Nat),t+d=e->m0+d<m->(∀s,t<=s->s<=e->l[s]? =some 2)->eP (aNb ls a (i:Int)) m (b++[fJ.mk x.Rule x.From (a+(t:Int)) x.Begins (decide (l[t+1]? =some 1))],((t+1:Nat):Int))=some (b++fJ.mk x.Rule x.From (a+(e:Int)) x.Begins (decide (l[e+1]? =some 1))::j)
 |0,t,x,m,hd,hm,h=>by
  have:t=e:=by omega
  subst this;rw [p _ m (by omega),List.append_assoc,List.singleton_append]
 |d+1,t,x,m,hd,hm,h=>by
  obtain⟨m,rfl⟩: ∃n,m=n+1:=⟨m-1,by omega⟩;have q:=h (t+1) (by omega) (by omega);have A:=h t (by omega) (by omega);have u:=(gS.1 q).1;have i2:=aVf k o c m0 j b z p d (t+1) x m (by omega) (by omega) λs _ B=>h s (by omega) B
  have tk:=aNm k o c u b (fJ.mk x.Rule x.From (a+(t:Int)) x.Begins (decide (l[t+1]? =some 1))) (by omega);have w:IntKind.i64.wrap (((t+1:Nat):Int)-1)=(t:Int):=by rw [wrap_i64 (by omega) (by omega)];omega
  unfold aQd at tk;rw [eP];generalize eP (aNb ls a (i:Int)) m=K at i2⊢;unfold aNb;dsimp only;rw [yH c,zA,zG,zG,dT (by omega),zS,zA,yH q,zA,zG,qD (by decide),zM,zG,qD (by omega),zM,zA,zG,w,yH A,zA,zG,zA,qD (by decide),zM,zA];rw [yH c]at tk;rw [tk,zA];dsimp only;rw [zG,fP u (by omega)];exact i2
theorem evR_ok (C:0<=a/\a<=4194304)(D:l.length<=1000000)(c:ls[i]? =some l){t:Nat}{o:List fJ}(k:aNj a (i:Int) l t o): ∀(b:List fJ) (m:Nat),l.length-t<m->b.length+l.length<=80000000+t->t<=l.length->(0<t->l[t-1]? =some 2->l[t]? ≠some 2)->eP (aNb ls a (i:Int)) m (b,(t:Int))=some (b++o):=by
 induction k with
 | @done t h=>
  intro b m hm _ E _;obtain⟨m,rfl⟩: ∃n,m=n+1:=⟨m-1,by omega⟩;rw [eP];unfold aNb;dsimp only;rw [yH c,zA,zG,zG,qD (by omega),zM,List.append_nil]
 | @skip t o h j _ s=>
  intro b m hm F E _;obtain⟨m,rfl⟩: ∃n,m=n+1:=⟨m-1,by omega⟩;obtain⟨x,d⟩: ∃x,l[t]? =some x:=⟨_,gE h⟩;have G:x≠2:=λq=>j (by rw [d,q])
  have i2:=s b m (by omega) (by omega) (by omega) (λ_ q=>absurd q j);rw [eP];generalize eP (aNb ls a (i:Int)) m=K at i2⊢;unfold aNb;dsimp only;rw [yH c,zA,zG,zG,dT (by omega),zS,zA,yH d,zA,zG,dT G,zS,zA,zG,fP h (by omega)];exact i2
 | @run t e o h j H _ s=>
  intro b m hm F E u;obtain⟨m,rfl⟩: ∃n,m=n+1:=⟨m-1,by omega⟩;have d:=j t (Nat.le_refl _) h;have I:=j e h (Nat.le_refl _);have A:=(gS.1 d).1;have L:=(gS.1 I).1;have i2:=aVf C D c (l.length-(e+1)) o b (by omega) (λy m' B=>s (b++[y]) m' B (by rw [List.length_append,List.length_singleton];omega) (by omega) (λ_ _=>H)) (e-t) t (fJ.mk (i:Int) (a+(t:Int)) 0 (decide (0<t/\l[t-1]? =some 1)) false) m (by omega) (by omega) j;have tk:=aNm C D c A b (fJ.mk (i:Int) (a+(t:Int)) 0 (decide (0<t/\l[t-1]? =some 1)) false) (by omega);unfold aQd at tk;rw [eP];generalize eP (aNb ls a (i:Int)) m=K at i2⊢;unfold aNb;dsimp only;rw [yH c]at tk
  cases t with
  |zero=>
   have q:decide (0<0/\l[0-1]? =some 1)=false:=qD (λq=>absurd q.1 (Nat.lt_irrefl 0));rw [q]at tk i2⊢;rw [wrap_i64 (n:=a+((0:Nat):Int)) (by omega) (by omega)]at tk;rw [yH c,zA,zG,zG,dT (by omega),zS,zA,yH d,zA,zG,qD (by decide),zM,zG,dT (by omega),zS,zA,zS,zG,zG,qD (by omega),zM,zG,wrap_i64 (n:=a+((0:Nat):Int)) (by omega) (by omega),ap32x _ _ (by omega),zA,zA,tk,zA];dsimp only;rw [zG,fP A (by omega)];exact i2
  |succ t=>
   obtain⟨y,p⟩: ∃y,l[t]? =some y:=⟨_,gE (by omega)⟩;have J:y≠2:=λq=>u (by omega) (by show l[t]? =_;rw [p,q]) d
   have w:IntKind.i64.wrap (((t+1:Nat):Int)-1)=(t:Int):=by rw [wrap_i64 (by omega) (by omega)];omega
   have q:decide (0<t+1/\l[t+1-1]? =some 1)=decide (y=1):=by
    rw [at_one p];exact decide_eq_decide.2 ⟨λz=>z.2,λz=>⟨by omega,z⟩⟩
   rw [q]at tk i2⊢;rw [wrap_i64 (n:=a+((t+1:Nat):Int)) (by omega) (by omega)]at tk;rw [yH c,zA,zG,zG,dT (by omega),zS,zA,yH d,zA,zG,qD (by decide),zM,zG,qD (by omega),zM,zA,zG,w,yH p,zA,zG,zA,dT J,zS,zG,zG,dT (by omega),zS,zA,zG,yH p,zA,zG,zG,wrap_i64 (n:=a+((t+1:Nat):Int)) (by omega) (by omega),ap32x _ _ (by omega),zA,zA,tk,zA];dsimp only;rw [zG,fP A (by omega)];exact i2
end
end Go.Lf
