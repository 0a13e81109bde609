/- Laws that the claim stands on; no condition beyond those stated. -/
import Derived.Test.YtibkjjklfhfipadGreatDoorTEa
namespace Go.Lf
open Go.OB
def tel (l:List Track)(a:Int)(k:Nat):List gY:=l.map (inT (a+(k:Int)))
theorem bBt (l:List Track)(a:Int)(k:Nat):(tel l a k).length=l.length:=by unfold tel;rw [List.length_map]
theorem run_rl {r:Rules}{l:List Track}(f:Nat->List gY): ∀n,(runT f (fZ r l) n).2.rules.length=r.Rules.length
 |0=>by show(r.Rules.mapIdx _).length=_;simp
 |n+1=>by
  show(nxt (f n) (runT f (fZ r l) n).2).2.rules.length=_;rw [(aJb _ _).2,run_rl f n]
theorem aSu (s:Str): ∀(l:List Str) (i:Nat),s∈l->dU (λi x=>if decide (x=s)=true then some (some (i:Int))else none) (some (-1)) l i=some (aV (nO l i) s 0)
 | [],_,h=>by simp at h
 |x::l,i,h=>by
  rw [dU,nO,aDd]
  by_cases c:x=s
  ·rw [if_pos c];simp [c]
  ·rw [if_neg c,<-aSu s l (i+1) ((List.mem_cons.1 h).resolve_left (Ne.symm c))];simp [c]
theorem aPr (l:List Str) (s:Str) (a:l.length<=9223372036854775807) (h:s∈l):Fac l s=some (aV (nO l 0) s 0):=by
 rw [<-aSu s l 0 h];unfold Fac;simp only [xE];unfold Fgi;refine yZ l _ _ a ?_ ?_;intro k _ x b hi;simp only [zH];rw [yP hi,zS,yQ b,zC,fO hi a];cases decide (x=s)<;>rfl;intro k;simp only [zH];rw [yR];rfl
theorem idx_zip (l:List Str) (s:Str) (a:l.length<=9223372036854775807) (h:s∈l):aAm l s=aV (nO l 0) s 0:=by
 have e:Faj l s=some (aV (nO l 0) s 0):=by
  rw [<-aSu s l 0 h];unfold Faj;simp only [zH,xE];unfold Fe8;refine yZ l _ _ a ?_ ?_
  ·intro b _ x c hi;simp only [zH];rw [yP hi,zS,yQ c,zC,fO hi a,decide_eq_decide.2 (eq_comm:s=x↔x=s)]
   cases decide (x=s)<;>rfl
  ·intro b;simp only [zH];rw [yR];rfl
 unfold aAm;rw [e];rfl
theorem fo_map {a:Type}(g:a->Str)(s:Str): ∀(l:List a) (i:Nat),dU (λi x=>if decide (g x=s)=true then some (some (i:Int))else none) (some (-1)) l i=dU (λi x=>if decide (x=s)=true then some (some (i:Int))else none) (some (-1)) (l.map g) i
 | [],_=>rfl
 |x::l,i=>by
  rw [List.map_cons,dU,dU,fo_map g s l (i+1)]
def ruI (r:Rules)(s:Str):Int:=aV (nO (r.Rules.map fU.Name) 0) s 0
theorem aMg (r:Rules) (s:Str) (a:r.Rules.length<=9223372036854775807) (h:s∈r.Rules.map fU.Name):Faf r s=some (ruI r s):=by
 unfold ruI;rw [<-aSu s _ 0 h,<-fo_map];unfold Faf;simp only [xE];unfold Fek;refine yZ r.Rules _ _ a ?_ ?_;intro k _ x b hi;simp only [zH];rw [yP hi,zS,yQ b,zC,fO hi a];cases decide (x.Name=s)<;>rfl;intro k;simp only [zH];rw [yR];rfl
theorem aVj (s:Str): ∀(l:List Str) (i k:Nat),s∈l.take k->aV (nO (l.take k) i) s 0=aV (nO l i) s 0
 | [],i,k,h=>by simp at h
 |x::l,i,0,h=>by simp at h
 |x::l,i,k+1,h=>by
  rw [List.take_succ_cons,nO,nO,aDd,aDd]
  by_cases c:x=s
  ·rw [if_pos c,if_pos c]
  ·rw [if_neg c,if_neg c];exact aVj s l (i+1) k ((List.mem_cons.1 h).resolve_left (Ne.symm c))
theorem aWh {r:Rules}{l:List Track}{i:Nat}{s:Str}(h:s∈(r.Rules.take i).map fU.Name): ∃(j:Nat) (x:fU),ruI r s=(j:Int)/\(MkR r l i).rl s=(j:Int)/\j<i/\r.Rules[j]? =some x/\x.Name=s:=by
 obtain⟨j,a,c⟩:=aBx s _ 0 h;have e:(r.Rules.map fU.Name).take i=(r.Rules.take i).map fU.Name:=by rw [List.map_take]
 have d:ruI r s=aV (nO ((r.Rules.take i).map fU.Name) 0) s 0:=by
  unfold ruI;rw [<-e];exact(aVj s _ 0 i (by rw [e];exact h)).symm
 rw [Nat.zero_add]at a;rw [List.getElem?_map,Option.map_eq_some_iff]at c;obtain⟨x,b,k⟩:=c;have n:=(gS.1 b).1;rw [List.length_take]at n;refine⟨j,x,by rw [d];exact a,a,by omega,?_,k⟩;rw [List.getElem?_take_of_lt (by omega)]at b;exact b
theorem aTl {c:Cond}(g:Gt c):aPe c:=by
 have gk:=g.gk;have a:=g.self;refine⟨a.k1,λh=>List.eq_nil_of_length_eq_zero (gk.z h),λh=>aG (gk.o h),λh=>aCl (gk.t h),λh=>⟨gk.g h,g.kids⟩,λh=>⟨gk.fr h,a.fr.2⟩,a.n,gk.st⟩
theorem ph_at {r:Rules} (n:r.Phases.length<=20) (d: ∀(i:Nat) x,r.Phases[i]? =some x->x∉r.Phases.take i) {s:Str} (h:s∈r.Phases):Fac r.Phases s=some (aAm r.Phases s)/\(0<=aAm r.Phases s/\aAm r.Phases s<r.Phases.length)/\ ∀(i:Nat) u,r.Phases[i]? =some u->(s=u↔aAm r.Phases s=(i:Int)):=by
 rw [idx_zip _ _ (by omega) h];refine⟨aPr _ _ (by omega) h,?_⟩;obtain⟨j,k,a⟩:=aBx s _ 0 h;rw [Nat.zero_add]at k;rw [k];have o:=(gS.1 a).1;refine⟨⟨by omega,by omega⟩,λi u b=>⟨λe=>?_,λe=>?_⟩⟩
 ·subst e;rcases Nat.lt_trichotomy j i with c|c|c
  ·exfalso;refine d i s b ?_;exact qS (i:=j) (by rw [List.getElem?_take_of_lt c];exact a)
  ·rw [c]
  ·exfalso;refine d j s a ?_;exact qS (i:=i) (by rw [List.getElem?_take_of_lt c];exact b)
 ·have:j=i:=by omega
  subst this;rw [a]at b;exact oI b
def mvC (r:Rules):List Cond:=r.Moves.map dH.When
def rlC (r:Rules):List Cond:=r.Rules.map fU.When
def rlP (r:Rules)(s:Str):Int:=(at' (kH (cNs (mvC r)) (rlC r)) (ruI r s)).getD 0
def ev0 (r:Rules)(l:List Track):gG:=
 gG.mk r (l.map Track.Name) (rG l) [] 0 ((List.replicate r.Phases.length false).set 0 true)
  ((aA 0 (mvC r)++aA (cNs (mvC r)) (rlC r)).map (kE (rlP r))) ((cNs (mvC r):Nat):Int) (kH 0 (mvC r)) (kH (cNs (mvC r)) (rlC r))
theorem bAq {n:Nat}: ∀l:List Cond,(∀x∈l,cN x<=n)->cNs l<=n*l.length
 | [],_=>by rw [cNs];exact Nat.zero_le _
 |x::l,h=>by
  have b:=h x List.mem_cons_self;have c:=bAq l λy a=>h y (List.mem_cons_of_mem _ a)
  rw [cNs,List.length_cons,Nat.mul_add];omega
theorem begin_eq (r:Rules)(b:r.Phases.length<=20):Fez r=some ((List.replicate r.Phases.length false).set 0 true):=by
 unfold Fez;have mk:make' 1 (r.Phases.length:Int) (false:Bool)=some (List.replicate r.Phases.length false):=by
  unfold make';rw [if_pos ⟨by omega,by omega,by omega⟩,Int.toNat_natCast]
 simp only [zH];rw [mk,zC,List.length_replicate]
 cases h:r.Phases.length with
 |zero=>rfl
 |succ n=>
  rw [dT (by omega:(0:Int)<((n+1:Nat):Int)),zS];have a:at' (List.replicate (n+1) false) 0=some false:=by
   have:=yQ (l:=List.replicate (n+1) false) (i:=0) (x:=false) (by simp [List.replicate_succ]);exact this
  have s:set' (List.replicate (n+1) false) 0 true=some ((List.replicate (n+1) false).set 0 true):=by
   unfold set';rw [if_pos ⟨by omega,by rw [List.length_replicate];omega⟩];rfl
  rw [a,zC,s];rfl
def pM (r:Rules)(c:Cond):Prop:=Gt c/\aT pMv c=false/\ ∀s∈bG c,s∈jF r
def pR (r:Rules)(i:Nat)(c:Cond):Prop:=Gt c/\aT (pRl r i) c=false/\ ∀s∈bG c,s∈jF r
theorem aXq {r:Rules}(c x:Cond)(h:pM r c)(a:x∈c.Kids):pM r x:=⟨h.1.kid a,aJy a h.2.1,λs b=>h.2.2 s (aJw a b)⟩
theorem bAa {r:Rules}{i:Nat}(c x:Cond)(h:pR r i c)(a:x∈c.Kids):pR r i x:=⟨h.1.kid a,aJy a h.2.1,λs b=>h.2.2 s (aJw a b)⟩
theorem pM_of {r:Rules}{l:List Track}(h:GB r l){m:dH}(hm:m∈r.Moves):pM r m.When:=⟨(h.g.mg m hm).1,(mv_ok h.c hm).2.2,λ_ a=>nm_mv hm a⟩
theorem pR_of {r:Rules}{l:List Track}(h:GB r l){i:Nat}{x:fU}(a:r.Rules[i]? =some x):pR r i x.When:=⟨(h.g.lg x (qS a)).1,(aEh h.c i x a).2,λ_ b=>nm_rl (qS a) b⟩
theorem pMv_no {c:Cond}(h:aT pMv c=false):c.Kind≠6/\c.Kind≠7:=by
 have q:=aBo h;unfold pMv at q;constructor<;>(intro e;rw [e]at q;simp at q)
theorem dN_20 {c:Cond}(g:Gt c):dN c<=1000000:=by have:=g.d;omega
theorem mv_cN {r:Rules}{l:List Track}(h:GB r l):cNs (mvC r)<=12000:=by
 have q:=bAq (n:=200) (mvC r) (λ_ a=>by obtain⟨m,hm,rfl⟩:=List.mem_map.1 a;exact(h.g.mg m hm).1.n);have:=h.g.m;unfold mvC at q⊢;rw [List.length_map]at q;omega
theorem rl_cN {r:Rules}{l:List Track}(h:GB r l):cNs (rlC r)<=12000:=by
 have q:=bAq (n:=200) (rlC r) (λ_ a=>by obtain⟨m,hm,rfl⟩:=List.mem_map.1 a;exact(h.g.lg m hm).1.n);have:=h.g.l;unfold rlC at q⊢;rw [List.length_map]at q;omega
theorem rlP_at {r:Rules}{i:Nat}{s:Str}{l:List Track} (h:s∈(r.Rules.take i).map fU.Name): ∃(j:Nat) (x:fU) (k:Int),ruI r s=(j:Int)/\(MkR r l i).rl s=(j:Int)/\j<i/\r.Rules[j]? =some x/\(kH (cNs (mvC r)) (rlC r))[j]? =some k/\rlP r s=k/\at' (kH (cNs (mvC r)) ((r.Rules.take i).map fU.When)) (j:Int)=some k:=by
 obtain⟨j,x,b,d,n,c,-⟩:=aWh (l:=l) h;have o:=(gS.1 c).1;have p:j<(kH (cNs (mvC r)) (rlC r)).length:=by rw [aCh];unfold rlC;rw [List.length_map];exact o
 have a:(kH (cNs (mvC r)) (rlC r))[j]? =some (kH (cNs (mvC r)) (rlC r))[j]:=gE p;refine⟨j,x,_,b,d,n,c,a,?_,?_⟩;unfold rlP;rw [b,rE,a];rfl;rw [rE,<-a];have e:rlC r=(r.Rules.take i).map fU.When++(r.Rules.drop i).map fU.When:=by rw [<-List.map_append,List.take_append_drop];rfl
 rw [e,aLz,List.getElem?_append_left];rw [aCh,List.length_map,List.length_take];omega
theorem empty_eq {r:Rules}{l:List Track}(h:GB r l):Fdr r l=some (ev0 r l):=by
 have g:=h.g;have A:=empty1 l (by have:=h.t.n;omega);have B:=begin_eq r g.p;have nm:=mv_cN h;have I:=rl_cN h;have C:=empty2 (r:=r) (ph:=(List.replicate r.Phases.length false).set 0 true) (nm:=l.map Track.Name) (ds:=l.map λt=>t.Series.Den) (rl:=rlP r) (pM r) aXq
  (λv c a=>⟨⟨a.1.self.fr.1,a.1.self.fr.2⟩,a.1.kids,λb=>absurd b (pMv_no a.2.1).2⟩) (λm hm=>pM_of h hm) (by have:=g.m;omega) (λm hm=>dN_20 (g.mg m hm).1) (by show cNs (mvC r)<=_;omega)
 have ll:((aA 0 (mvC r)).map (kE (rlP r))).length=cNs (mvC r):=by rw [List.length_map,mP]
 have u:=empty3 (r:=r) (ph:=(List.replicate r.Phases.length false).set 0 true) (nm:=l.map Track.Name) (ds:=l.map λt=>t.Series.Den) (rl:=rlP r) (ns:=(aA 0 (mvC r)).map (kE (rlP r))) (mv:=kH 0 (mvC r)) (f0:=((cNs (mvC r):Nat):Int))
  (λi x d=>⟨pR r i,bAa,pR_of h d,λv c D e a=>⟨⟨a.1.self.fr.1,a.1.self.fr.2⟩,a.1.kids,λb=>by
   have w:=(aFj i (aBo a.2.1)).2 b;obtain⟨_,_,_,E,a2,a3,a4,a5,F,G⟩:=rlP_at (l:=l) w;refine⟨ruI r c.Name,by rw [D];exact aMg r _ (by have:=g.l;omega) (by obtain⟨z,H,o⟩:=List.mem_map.1 w;exact List.mem_map.2 ⟨z,List.mem_of_mem_take H,o⟩),?_⟩;rw [e,ll,E,F];exact G⟩⟩) (by have:=g.l;omega) (λx d=>dN_20 (g.lg x d).1) (by rw [ll];show cNs (mvC r)+cNs (rlC r)<=_;omega)
 unfold Fdr;rw [B,zC,A,zC];dsimp only;rw [C,zC];simp only [zH];have q:((aA 0 (r.Moves.map dH.When)).map (kE (rlP r))).length=cNs (mvC r):=ll;rw [ll]at u;rw [q];have s:Fdq r ((List.replicate r.Phases.length false).set 0 true) (l.map Track.Name) (l.map λt=>t.Series.Den) (kH 0 (r.Moves.map dH.When)) ((cNs (mvC r):Nat):Int) (0,(aA 0 (r.Moves.map dH.When)).map (kE (rlP r)),[])=_:=u;rw [s,zC];refine congrArg some ?_;unfold ev0;rw [List.map_append];rfl
def itm (M:Mk)(rl:Str->Int)(x:It):Itm:=⟨x.c,x.ks,M,if x.c.Kind=7 then rl x.c.Name else 0⟩
def bAk (b:Nat)(L:List Itm):Prop:= ∀(g:Nat) (it:Itm),L[g]? =some it->it.ks.length=it.c.Kids.length/\aPe it.c/\ ∀(j:Nat) (k:Int),it.ks[j]? =some k-> ∃(a:Nat) (y:Itm),k=((b+a:Nat):Int)/\a<g/\L[a]? =some y/\it.c.Kids[j]? =some y.c/\y.M=it.M
theorem bAk.app {b:Nat}{a s:List Itm} (w:bAk b a) (z:bAk (b+a.length) s):bAk b (a++s):=by
 intro g x d;by_cases c:g<a.length;rw [List.getElem?_append_left c]at d;obtain⟨e,a0,a2⟩:=w g x d;refine⟨e,a0,λj k h=>?_⟩;obtain⟨i,y,n,u,o,p,q⟩:=a2 j k h;exact⟨i,y,n,u,by rw [List.getElem?_append_left (by omega)];exact o,p,q⟩;rw [List.getElem?_append_right (by omega)]at d;obtain⟨e,a0,a2⟩:=z _ x d;refine⟨e,a0,λj k h=>?_⟩;obtain⟨i,y,n,u,o,p,q⟩:=a2 j k h;exact⟨a.length+i,y,by rw [n];congr 1;omega,by omega,by rw [List.getElem?_append_right (by omega),Nat.add_sub_cancel_left];exact o,p,q⟩
theorem aTr {b:Nat}{L:List It}{M:Mk}{rl:Str->Int}(h:aHv b L)(e: ∀x∈L,aPe x.c):bAk b (L.map (itm M rl)):=by
 intro g _ a;rw [List.getElem?_map,Option.map_eq_some_iff]at a;obtain⟨x,d,rfl⟩:=a;obtain⟨i,a2⟩:=h g x d;refine⟨i,e x (qS d),λj k n=>?_⟩;obtain⟨o,y,p,q,s,u⟩:=a2 j k n;exact⟨o,itm M rl y,p,q,by rw [List.getElem?_map,s];rfl,u,rfl⟩
theorem aLq {p:Cond->Prop}(d: ∀c x:Cond,p c->x∈c.Kids->p x): ∀(cs:List Cond) (b:Nat),(∀c∈cs,p c)-> ∀x∈aA b cs,p x.c
 | [],b,_,x,a=>by rw [aA]at a;simp at a
 |c::cs,b,e,x,a=>by
  rw [aA]at a;rcases mA.1 a with h|h
  ·exact aFv d b c (e c List.mem_cons_self) x h
  ·exact aLq d cs _ (λy i=>e y (List.mem_cons_of_mem _ i)) x h
def aCo (r:Rules)(l:List Track):Nat->Nat->List fU->List Itm
 |_,_,[]=>[]
 |i,b,x::xs=>(kJ b x.When).map (itm (MkR r l i) (rlP r))++aCo r l (i+1) (b+(kJ b x.When).length) xs
def uD (r:Rules)(l:List Track):List Itm:=(aA 0 (mvC r)).map (itm (MkR r l 0) (rlP r))++aCo r l 0 (cNs (mvC r)) r.Rules
section
variable {r:Rules}{l:List Track}
theorem itmL_B: ∀(xs:List fU) (i b:Nat),(∀(k:Nat) x,xs[k]? =some x->pR r (i+k) x.When)->bAk b (aCo r l i b xs)
 | [],i,b,_=>λg it h=>by rw [aCo]at h;simp at h
 |x::xs,i,b,h=>by
  rw [aCo];have c:=h 0 x rfl;refine(aTr (aTb b x.When) (λy a=>aTl (aFv bAa b x.When c y a).1)).app ?_;rw [List.length_map];exact itmL_B xs (i+1) _ λk y a=>by rw [show i+1+k=i+(k+1)by omega];exact h (k+1) y (by simpa using a)
theorem bAw: ∀(xs:List fU) (i b:Nat),(aCo r l i b xs).map (λy=>(⟨y.c,y.ks⟩:It))=aA b (xs.map fU.When)
 | [],_,_=>rfl
 |x::xs,i,b=>by
  rw [aCo,List.map_append,bAw xs,List.map_cons,aA,List.map_map]
  congr 1
  exact List.map_id _
theorem bBv: ∀(xs:List fU) (i b:Nat),∀y∈aCo r l i b xs,y.rule=if y.c.Kind=7 then rlP r y.c.Name else 0
 | [],_,_,y,h=>by rw [aCo]at h;simp at h
 |x::xs,i,b,y,h=>by
  rw [aCo]at h;rcases mA.1 h with h|h
  ·obtain⟨z,a,rfl⟩:=List.mem_map.1 h;rfl
  ·exact bBv xs _ _ y h
theorem bBy: ∀y∈uD r l,y.rule=if y.c.Kind=7 then rlP r y.c.Name else 0:=λy h=>by
 unfold uD at h;rcases mA.1 h with h|h
 ·obtain⟨_,_,rfl⟩:=List.mem_map.1 h;rfl
 ·exact bBv _ _ _ y h
theorem aRa:(uD r l).map (λy=>(⟨y.c,y.ks⟩:It))=aA 0 (mvC r)++aA (cNs (mvC r)) (rlC r):=by
 unfold uD;rw [List.map_append,bAw,List.map_map];congr 1;exact List.map_id _
theorem aTs:(uD r l).length=cNs (mvC r)+cNs (rlC r):=by
 have h:=congrArg List.length (aRa (r:=r) (l:=l));rw [List.length_map,List.length_append,mP,mP]at h;exact h
theorem bCc (h:GB r l):aUr (uD r l):=by
 have q:bAk 0 (uD r l):=by
  unfold uD;refine(aTr (bDa _ 0) (λy e=>aTl (aLq aXq (mvC r) 0 (λc i=>by obtain⟨m,hm,rfl⟩:=List.mem_map.1 i;exact pM_of h hm) y e).1)).app ?_;rw [List.length_map,mP,Nat.zero_add];exact itmL_B _ 0 _ λk _ n=>by rw [Nat.zero_add];exact pR_of h n
 intro g it d;obtain⟨a,b,c⟩:=q g it d;refine⟨a,b,λj k o=>?_⟩;obtain⟨p,y,s,u⟩:=c j k o;exact⟨p,y,by rw [s,Nat.zero_add],u⟩
theorem aTw: ∀(xs:List fU) (i b:Nat),(∀(k:Nat) x,xs[k]? =some x->pR r (i+k) x.When)-> ∀(g:Nat) it,(aCo r l i b xs)[g]? =some it-> ∃k,k<xs.length/\it.M=MkR r l (i+k)/\pR r (i+k) it.c/\
  ∀(j:Nat) y,j<k->xs[j]? =some y-> ∃(q:Nat) (z:Itm),(kH b (xs.map fU.When))[j]? =some ((b+q:Nat):Int)/\q<g/\(aCo r l i b xs)[q]? =some z/\z.c=y.When/\z.M=MkR r l (i+j)
 | [],i,b,_,g,it,h=>by rw [aCo]at h;simp at h
 |x::xs,i,b,h,g,it,d=>by
  rw [aCo]at d⊢;have s:=h 0 x rfl;have E:=aFw b x.When;have a:((kJ b x.When).map (itm (MkR r l i) (rlP r))).length=(kJ b x.When).length:=List.length_map _
  by_cases c:g<(kJ b x.When).length
  ·rw [List.getElem?_append_left (by rw [a];exact c),List.getElem?_map,Option.map_eq_some_iff]at d;obtain⟨y,e,rfl⟩:=d;exact⟨0,by simp,rfl,aFv bAa b x.When s y (qS e),λj y n=>absurd n (Nat.not_lt_zero _)⟩
  ·rw [List.getElem?_append_right (by rw [a];omega),a]at d;obtain⟨k,_,o,p,u⟩:=aTw xs (i+1) (b+(kJ b x.When).length) (λk y e=>by rw [show i+1+k=i+(k+1)by omega];exact h (k+1) y (by simpa using e)) _ it d;have w:i+1+k=i+(k+1):=by omega
   rw [w]at o p;refine⟨k+1,by simp;omega,o,p,λj y n e=>?_⟩
   cases j with
   |zero=>
    obtain rfl:x=y:=by simpa using e
    refine⟨(kJ b x.When).length-1,itm (MkR r l i) (rlP r) ⟨x.When,(dF b x.When.Kids).2⟩,?_,by omega,?_,rfl,rfl⟩
    ·rw [List.map_cons,kH,List.getElem?_cons_zero];congr 2;omega
    ·rw [List.getElem?_append_left (by rw [a];omega),List.getElem?_map,aDh];rfl
   |succ j=>
    obtain⟨q,z,A,_,B,C,D⟩:=u j y (by omega) (by simpa using e);refine⟨(kJ b x.When).length+q,z,?_,by omega,?_,C,by rw [D];congr 1;omega⟩
    ·rw [List.map_cons,kH,List.getElem?_cons_succ,A];congr 2;omega
    ·rw [List.getElem?_append_right (by rw [a];omega),a,Nat.add_sub_cancel_left];exact B
theorem aQa: ∀(xs:List fU) (i b j:Nat) (y:fU),xs[j]? =some y-> ∃(q:Nat) (z:Itm),(kH b (xs.map fU.When))[j]? =some ((b+q:Nat):Int)/\(aCo r l i b xs)[q]? =some z/\z.c=y.When/\z.M=MkR r l (i+j)
 | [],_,_,j,y,h=>by simp at h
 |x::xs,i,b,0,y,h=>by
  obtain rfl:x=y:=by simpa using h
  have o:=aFw b x.When;have a:((kJ b x.When).map (itm (MkR r l i) (rlP r))).length=(kJ b x.When).length:=List.length_map _;refine⟨(kJ b x.When).length-1,itm (MkR r l i) (rlP r) ⟨x.When,(dF b x.When.Kids).2⟩,?_,?_,rfl,rfl⟩
  ·rw [List.map_cons,kH,List.getElem?_cons_zero];congr 2;omega
  ·rw [aCo,List.getElem?_append_left (by rw [a];omega),List.getElem?_map,aDh];rfl
 |x::xs,i,b,j+1,y,h=>by
  have a:((kJ b x.When).map (itm (MkR r l i) (rlP r))).length=(kJ b x.When).length:=List.length_map _;obtain⟨q,z,d,e,k,n⟩:=aQa xs (i+1) (b+(kJ b x.When).length) j y (by simpa using h);refine⟨(kJ b x.When).length+q,z,?_,?_,k,by rw [n];congr 1;omega⟩
  ·rw [List.map_cons,kH,List.getElem?_cons_succ,d];congr 2;omega
  ·rw [aCo,List.getElem?_append_right (by rw [a];omega),a,Nat.add_sub_cancel_left];exact e
end
theorem aYi (E:En) (M:Mk): ∀(m:Nat) (c:Cond),dN c<=m->Gt c->ndA E 0 (mkN M c)=mkN M c
 |0,c,h,_=>by have:=pI c;omega
 |m+1,c,h,g=>by
  have b: ∀x∈c.Kids,ndA E 0 (mkN M x)=mkN M x:=λx a=>by
   obtain⟨_,i⟩:=List.getElem?_of_mem a;exact aYi E M m x (by have:=(pK g.ok i).2.1;omega) (g.kid a)
  have gk:=g.gk;have k:=g.self;have d:aHh E 0 (c.Kids.map (mkN M))=c.Kids.map (mkN M):=by
   rw [aUm,List.map_map];exact List.map_congr_left λx a=>b x a
  rw [jP];rcases kinds k.k1 with e|e|e|e|e|e|e|e|e|e|e|e|e|e|e<;>rw [e]<;>simp only [mkK,Int.reduceEq,if_true,if_false,or_true,true_or,or_self]
  ·rw [ndA]
  ·rw [ndA]
  ·rw [ndA]
  ·rw [ndA]
  ·rw [ndA,win_zero]
  ·rw [ndA]
  ·rw [ndA]
  ·obtain⟨x,a⟩:=aG (gk.o (by omega));rw [a,ndA,List.map_singleton,List.getD_cons_zero,b x (by rw [a];exact List.mem_cons_self)]
  ·rw [ndA,d]
  ·rw [ndA,d]
  ·obtain⟨x,a⟩:=aG (gk.o (by omega));rw [a,ndA,List.map_singleton,List.getD_cons_zero,b x (by rw [a];exact List.mem_cons_self),win_zero]
  ·obtain⟨x,a⟩:=aG (gk.o (by omega));rw [a,ndA,List.map_singleton,List.getD_cons_zero,b x (by rw [a];exact List.mem_cons_self),win_zero]
  ·obtain⟨x,a⟩:=aG (gk.o (by omega));rw [a,ndA,List.map_singleton,List.getD_cons_zero,b x (by rw [a];exact List.mem_cons_self),win_zero]
  ·obtain⟨x,y,a⟩:=aCl (gk.t e);rw [a];show ndA E 0 (.since (mkN M x) (mkN M y) 0 false)= .since (mkN M x) (mkN M y) 0 false;rw [ndA,b x (by rw [a];simp),b y (by rw [a];simp)];rfl
  ·obtain⟨x,a⟩:=aG (gk.o (by omega));rw [a,List.map_singleton,List.getD_cons_zero,ndA,b x (by rw [a];exact List.mem_cons_self)];rfl
theorem aTe {r:Rules}{l:List Track} (h:GB r l) (f:Nat->List gY):NewA f (fZ r l):=by
 have g:=h.g;refine⟨λx a=>?_,λk b=>?_⟩
 ·obtain⟨m,hm,rfl⟩:=List.mem_map.1 a;exact aYi _ _ _ m.When (Nat.le_refl _) (g.mg m hm).1
 ·obtain⟨i,hi⟩:=List.getElem?_of_mem b;change (r.Rules.mapIdx (rlN r l))[i]? =some k at hi;rw [List.getElem?_mapIdx,Option.map_eq_some_iff]at hi;obtain⟨x,a,rfl⟩:=hi;exact aYi _ _ _ x.When (Nat.le_refl _) (g.lg x (qS a)).1
structure FrI (l:List Track)(f:Nat->List gY):Prop where
 len: ∀t,(f t).length=l.length
 bd: ∀t x,x∈f t-> -1125899906842624<=x.N/\x.N<=1125899906842624
section
variable {r:Rules}{l:List Track}{f:Nat->List gY}{t:Nat}
theorem bBu (h:GB r l)(a:FrI l f)(t:Nat):((EnW f (fZ r l)).ps t).length=r.Phases.length:=by
 rw [ps_A (aCz h) a.len (aTe h f),aNd,List.length_replicate]
theorem rlE_rng (h:GB r l)(a:FrI l f)(t:Nat): ∀x∈(EnW f (fZ r l)).rl t,0<=x/\x<=2:=(aQt (aIy (aCz h) a.len t) (a.len t)).2.2.1
theorem bCr (h:GB r l)(o:FrI l f){R:Nat}(k:Nd)(j:wfN l.length r.Phases.length R k)(t:Nat):0<=den (EnW f (fZ r l)) k t/\den (EnW f (fZ r l)) k t<=2:=by
 have g:=h.g
 cases k with
 |constant c=>rw [wfN]at j;rw [den];exact j
 |number tr op n=>
  rw [wfN]at j;rw [den];dsimp only;unfold aQm;obtain⟨y,e,q⟩:=aOu (m:=(EnW f (fZ r l)).m t) (tr:=tr) (op:=op) (n:=n) ⟨j.1,by show tr<((f t).length:Int);rw [o.len];exact j.2⟩;rw [e];exact q
 |pair a b da db op=>
  rw [wfN]at j;rw [den];dsimp only;unfold pairT;obtain⟨y,e,q⟩:=bBx (m:=(EnW f (fZ r l)).m t) (a:=a) (b:=b) (da:=da) (db:=db) (op:=op) ⟨⟨j.1.1,by show a<((f t).length:Int);rw [o.len];exact j.1.2⟩,j.2.1,by show b<((f t).length:Int);rw [o.len];exact j.2.2⟩;rw [e];exact q
 |steady tr n fr _=>
  rw [den];dsimp only;unfold stT;split
  ·omega
  ·split<;>omega
 |phase p=>
  rw [wfN]at j;rw [den];dsimp only;unfold mD;have s:=bBu h o t;obtain⟨y,e,q⟩:=aVd (m:=(EnW f (fZ r l)).m t) (p:=p) ⟨j.1,by show p<(((EnW f (fZ r l)).ps t).length:Int);rw [s];exact j.2⟩ (by show((EnW f (fZ r l)).ps t).length<=_;rw [s];have:=g.p;omega);rw [e];exact q
 |rule i=>
  rw [den];dsimp only;unfold aCs
  cases e:at' ((EnW f (fZ r l)).m t).rules i with
  |none=>exact⟨by decide,by decide⟩
  |some y=>
   have m:y∈(EnW f (fZ r l)).rl t:=by
    unfold at' at e;split at e
    ·exact qS e
    ·exact absurd e (by simp)
   exact rlE_rng h o t y m
 |not k=>rw [den];exact bCf _
 |group _ any=>rw [den];cases any<;>exact aRi (by decide) _ _ (by decide)
 |count k n fr a b=>rw [den];exact aTp _ _ _
 |since a b c _=>
  rw [den]
  cases t with
  |zero=>rw [sS];exact aBb _ _ _
  |succ t=>rw [sS];exact aBb _ _ _
 |rises k a b=>rw [den];exact aLm _ _
theorem wf_M (h:GB r l){c:Cond}(a:pM r c):wfN l.length r.Phases.length 0 (mkN (MkR r l 0) c):=by
 refine aKx (MkR r l 0) pMv (λc a=>?_) (dN c) c (Nat.le_refl _) a.1 (λs b=>aLn (h.n s (a.2.2 s b))) a.2.1;unfold pMv at a;constructor<;>(intro e;rw [e]at a;simp at a)
theorem wf_R (h:GB r l){i:Nat}{c:Cond}(a:pR r i c):wfN l.length r.Phases.length i (mkN (MkR r l i) c):=by
 refine aKx (MkR r l i) (pRl r i) (λc a=>?_) (dN c) c (Nat.le_refl _) a.1 (λs b=>aLn (h.n s (a.2.2 s b))) a.2.1;obtain⟨d,k⟩:=aFj i a;refine⟨λe=>aYn h (d e),λe=>?_⟩;obtain⟨_,_,-,o,_,-⟩:=aWh (l:=l) (k e);rw [o];omega
theorem itms_M (h:GB r l){n:Nat}{it:Itm}(b:n<cNs (mvC r))(a:(uD r l)[n]? =some it):it.M=MkR r l 0/\pM r it.c:=by
 unfold uD at a;rw [List.getElem?_append_left (by rw [List.length_map,mP];exact b),List.getElem?_map,Option.map_eq_some_iff]at a;obtain⟨y,d,rfl⟩:=a;exact⟨rfl,aLq aXq (mvC r) 0 (λc e=>by obtain⟨m,hm,rfl⟩:=List.mem_map.1 e;exact pM_of h hm) y (qS d)⟩
theorem itms_R (h:GB r l){n:Nat}{it:Itm}(p:cNs (mvC r)<=n)(d:(uD r l)[n]? =some it): ∃k,k<r.Rules.length/\it.M=MkR r l k/\pR r k it.c/\
    ∀(j:Nat) y,j<k->r.Rules[j]? =some y-> ∃(q:Nat) (z:Itm),(kH (cNs (mvC r)) (rlC r))[j]? =some (q:Int)/\q<n/\(uD r l)[q]? =some z/\z.c=y.When/\z.M=MkR r l j:=by
 have a:((aA 0 (mvC r)).map (itm (MkR r l 0) (rlP r))).length=cNs (mvC r):=by rw [List.length_map,mP]
 have b:=d;unfold uD at b;rw [List.getElem?_append_right (by rw [a];exact p),a]at b;obtain⟨k,s,e,i,u⟩:=aTw r.Rules 0 _ (λk _ w=>by rw [Nat.zero_add];exact pR_of h w) _ it b;rw [Nat.zero_add]at e i;refine⟨k,s,e,i,λj y A B=>?_⟩;obtain⟨q,z,C,_,D,E,o⟩:=u j y A B;rw [Nat.zero_add]at o;refine⟨cNs (mvC r)+q,z,C,by omega,?_,E,o⟩;unfold uD;rw [List.getElem?_append_right (by rw [a];omega),a,Nat.add_sub_cancel_left];exact D
theorem itms_rng (h:GB r l) (e:FrI l f): ∀it∈uD r l,∀s,0<=den (EnW f (fZ r l)) (mkN it.M it.c) s/\den (EnW f (fZ r l)) (mkN it.M it.c) s<=2:=λit d s=>by
 obtain⟨n,i⟩:=List.getElem?_of_mem d
 by_cases c:n<cNs (mvC r)
 ·obtain⟨a,b⟩:=itms_M h c i;rw [a];exact bCr h e _ (wf_M h b) s
 ·obtain⟨_,-,a,b,-⟩:=itms_R h (by omega) i;rw [a];exact bCr h e _ (wf_R h b) s
theorem at_eq6 (h:GB r l)(c:FrI l f){v:gG}(d:v.names=l.map Track.Name)(hd:v.dens=rG l)(e:v.told=f t){s:Str}(j:s∈jF r)(i:Nat):
  Fag v s=some ((EnW f (fZ r l)).tk ((MkR r l i).tr s) t,(MkR r l i).dn ((MkR r l i).tr s))/\at' ((EnW f (fZ r l)).told t) ((MkR r l i).tr s)=some ((EnW f (fZ r l)).tk ((MkR r l i).tr s) t):=by
 have hm:=h.n s j;have b:=aLn hm;have k:=aPr (l.map Track.Name) s (by rw [List.length_map];have:=h.t.n;omega) hm;obtain⟨_,o⟩:=wL (l:=f t) (i:=trI l s) (by rw [c.len];exact b);have a2:at' ((EnW f (fZ r l)).told t) ((MkR r l i).tr s)=some ((EnW f (fZ r l)).tk ((MkR r l i).tr s) t):=by
  unfold En.tk;show at' (f t) (trI l s)=some ((at' (f t) (trI l s)).getD _);rw [o];rfl
 refine⟨?_,a2⟩;have a:at' (f t) (trI l s)=some ((EnW f (fZ r l)).tk ((MkR r l i).tr s) t):=a2;have a3:at' (rG l) (trI l s)=some ((MkR r l i).dn ((MkR r l i).tr s)):=at_D (by unfold rG;rw [List.length_map];exact b);unfold Fag;rw [d,hd,e,k,zC];show gB (at' (f t) (trI l s)) _=_;rw [a,zC];show gB (at' (rG l) (trI l s)) _=_;rw [a3,zC]
theorem tk_bd (b:FrI l f)(w:fA)(tr:Int)(s:Nat): -1125899906842624<=((EnW f w).tk tr s).N/\((EnW f w).tk tr s).N<=1125899906842624:=by
 unfold En.tk
 cases e:at' ((EnW f w).told s) tr with
 |none=>exact⟨by decide,by decide⟩
 |some y=>
  have m:y∈f s:=by
   have a:at' (f s) tr=some y:=e;unfold at' at a;split at a
   ·exact qS a
   ·exact absurd a (by simp)
  exact b.bd s y m
theorem aTi (h:GB r l) (a:FrI l f) {v:gG} (d:v.names=l.map Track.Name) (hd:v.dens=rG l) (e:v.told=f t) (b:v.frames=(t:Int)) (j:t<=1000000000) {i:Nat}{c:Cond}{x:gI} (n: ∀s∈bG c,s∈jF r)
  (ph:c.Kind=6->v.phase=(EnW f (fZ r l)).ps t/\v.phase.length<=2000000/\Fac v.r.Phases c.Name=some ((MkR r l i).ph c.Name)/\0<=(MkR r l i).ph c.Name/\(MkR r l i).ph c.Name<v.phase.length)
  (rl:c.Kind=7-> ∃y,at' v.nodes x.rule=some y/\at' ((EnW f (fZ r l)).rl t) ((MkR r l i).rl c.Name)=some y.now):Looks (EnW f (fZ r l)) (MkR r l i) t c x v:=by
 have nm: ∀s∈nm1 c,s∈jF r:=λs o=>n s (by rw [wB,mA];exact .inl o)
 refine⟨b,j,λk=>at_eq6 h a d hd e (nm _ ?_) i,λk=>at_eq6 h a d hd e (nm _ ?_) i,λtr s=>tk_bd a _ tr s,ph,rl⟩
 ·unfold nm1;rcases k with k|k|k<;>simp [k]
 ·unfold nm1;simp [k]
end
structure EvI (r:Rules)(l:List Track)(f:Nat->List gY)(t:Nat)(v:gG):Prop where
 rs:v.r=r
 names:v.names=l.map Track.Name
 dens:v.dens=rG l
 frames:v.frames=(t:Int)
 phase:v.phase=psB (EnW f (fZ r l)) (fZ r l) t
 nd:tX (EnW f (fZ r l)) (uD r l) v.nodes 0 t
 first:v.first=((cNs (mvC r):Nat):Int)
 moves:v.moves=kH 0 (mvC r)
 rules:v.rules=kH (cNs (mvC r)) (rlC r)
section
variable {r:Rules}{l:List Track}{f:Nat->List gY}{t:Nat}{v:gG}
theorem evI_zero (h:GB r l) (f:Nat->List gY):EvI r l f 0 (ev0 r l):=by
 refine⟨rfl,rfl,rfl,rfl,rfl,⟨?_,λg it a=>?_⟩,rfl,rfl,rfl⟩;show(List.map _ _).length=_;rw [List.length_map,<-aRa (l:=l),List.length_map];have hi:=(bCc h g it a).2.1;have e:(aA 0 (mvC r)++aA (cNs (mvC r)) (rlC r))[g]? =some ⟨it.c,it.ks⟩:=by rw [<-aRa (l:=l),List.getElem?_map,a];rfl
 refine⟨kE (rlP r) ⟨it.c,it.ks⟩,?_,?_,?_⟩;show(List.map _ _)[g]? =_;rw [List.getElem?_map,e];rfl;rw [if_neg (Nat.not_lt_zero _)];exact node0_I (it:=⟨it.c,it.ks⟩) hi;rw [bBy it (qS a)];rfl
theorem aHl (h:GB r l)(a:FrI l f){j:Nat}{y:fU}(b:r.Rules[j]? =some y)(t:Nat):at' ((EnW f (fZ r l)).rl t) (j:Int)=some (den (EnW f (fZ r l)) (mkN (MkR r l j) y.When) t):=by
 rw [rl_A (aCz h) a.len (aTe h f) t,rE,List.getElem?_map];show Option.map _ ((r.Rules.mapIdx (rlN r l))[j]?)=_;rw [List.getElem?_mapIdx,b];rfl
theorem look_R (h:GB r l) (d:FrI l f) (b:EvI r l f t v) (B:t<=1000000000) {n:Nat}{ns:List gI}{it:Itm}{x:gI} (C:cNs (mvC r)<=n) (D:tX (EnW f (fZ r l)) (uD r l) ns n t) (a:(uD r l)[n]? =some it) (i:x.rule=it.rule):
    Looks (EnW f (fZ r l)) it.M t it.c x (wN v (f t) ((EnW f (fZ r l)).ps t) ns):=by
 obtain⟨k,_,E,o,F⟩:=itms_R h C a;have g:=h.g;obtain⟨m1,m2⟩:=aFj k (aBo o.2.1);have s:=bBu h d t;rw [E];refine aTi (v:=wN v (f t) ((EnW f (fZ r l)).ps t) ns) h d b.names b.dens rfl b.frames B o.2.2 (λe=>?_) λe=>?_;obtain⟨G,u,-⟩:=ph_at g.p g.pd (m1 e);refine⟨rfl,by show((EnW f (fZ r l)).ps t).length<=_;rw [s];have:=g.p;omega,?_,u.1,?_⟩;show Fac v.r.Phases _=_;rw [b.rs];exact G;show aAm r.Phases it.c.Name<(((EnW f (fZ r l)).ps t).length:Int);rw [s];exact u.2;obtain⟨j,y,_,_,a2,a3,a4,a5,H,-⟩:=rlP_at (l:=l) (m2 e);obtain⟨_,_,A,I,J,K,L⟩:=F j y a3 a4;obtain⟨w,N,O⟩:=D.now (v:=wN v (f t) ((EnW f (fZ r l)).ps t) ns) J I;refine⟨w,?_,?_⟩;rw [i,bBy it (qS a),if_pos e,H];rw [a5]at A;rw [oI A];exact yQ N;rw [a2,aHl h d a4 t,O,K,L]
theorem look_M (h:GB r l)(i:FrI l f)(a:EvI r l f t v)(j:t<=1000000000){n:Nat}{ns:List gI}{it:Itm}{x:gI}{ph:List Bool}(k:n<cNs (mvC r))(b:(uD r l)[n]? =some it):
    Looks (EnW f (fZ r l)) it.M t it.c x (wN v (f t) ph ns):=by
 obtain⟨o,d⟩:=itms_M h k b;obtain⟨p,q⟩:=pMv_no d.2.1;rw [o];exact aTi (v:=wN v (f t) ph ns) h i a.names a.dens rfl a.frames j d.2.2 (λe=>absurd e p) λe=>absurd e q
theorem moved_6 (h:GB r l) (e:FrI l f) (a:EvI r l f t v) {ns:List gI} (B:tX (EnW f (fZ r l)) (uD r l) ns (cNs (mvC r)) t):
  Fbe (wN v (f t) v.phase ns) v.phase=some ((EnW f (fZ r l)).ps t):=by
 have g:=h.g;have L:=g.p;rw [ps_A (aCz h) e.len (aTe h f) t,a.phase];have j:((fZ r l).moves.map λx=>(x,den (EnW f (fZ r l)) x.when t)).length=r.Moves.length:=by
  rw [List.length_map];show(r.Moves.map (mvN r l)).length=_;rw [List.length_map]
 refine moved_ok6 (v:=wN v (f t) (psB (EnW f (fZ r l)) (fZ r l) t) ns) (zs:=(fZ r l).moves.map λx=>(x,den (EnW f (fZ r l)) x.when t)) (P:=r.Phases.length) ⟨?_,?_,?_,λk _ n=>?_⟩ _ ?_ (by omega)
 ·show v.r.Moves.length=_;rw [a.rs,j]
 ·rw [j];have:=g.m;omega
 ·show v.r.Phases.length=_;rw [a.rs]
 ·rw [List.getElem?_map,Option.map_eq_some_iff]at n;obtain⟨x,b,rfl⟩:=n;change (r.Moves.map (mvN r l))[k]? =some x at b;rw [List.getElem?_map,Option.map_eq_some_iff]at b;obtain⟨m,hm,rfl⟩:=b;have C:=qS hm;obtain⟨f1,f2,-⟩:=mv_ok h.c C;obtain⟨q,y,o,u,D⟩:=aWb (mvC r) 0 k m.When (by unfold mvC;rw [List.getElem?_map,hm];rfl);rw [Nat.zero_add]at o;have A:q<cNs (mvC r):=by have:=(gS.1 u).1;rwa [mP]at this
  have E:(uD r l)[q]? =some (itm (MkR r l 0) (rlP r) y):=by
   unfold uD;rw [List.getElem?_append_left (by rw [List.length_map,mP];exact A),List.getElem?_map,u];rfl
  obtain⟨w,F,G⟩:=B.now (v:=wN v (f t) v.phase ns) E A;obtain⟨_,_,H⟩:=ph_at g.p g.pd f1;obtain⟨I,J,-⟩:=ph_at g.p g.pd f2;refine⟨m,(q:Int),w,?_,?_,yQ F,?_,?_,J,λi s K=>?_⟩
  ·show v.r.Moves[k]? =_;rw [a.rs];exact hm
  ·show at' v.moves (k:Int)=_;rw [a.moves,rE];exact o
  ·rw [G];show den _ (mkN (MkR r l 0) y.c) t=den _ (mkN (MkR r l 0) m.When) t;rw [D]
  ·show Fac v.r.Phases m.To=_;rw [a.rs];exact I
  ·refine H i s ?_;have d:v.r.Phases[i]? =some s:=K;rwa [a.rs]at d
 ·rw [<-bDw];exact(aIy (aCz h) e.len t).po
theorem next_6 (h:GB r l) (e:FrI l f) (a:EvI r l f t v) (i:t<=1000000000): ∃d,Fbm v (f t)=some d/\EvI r l f (t+1) d/\d.phase=(EnW f (fZ r l)).ps t/\d.told=f t/\
  ∀(j:Nat) y,r.Rules[j]? =some y-> ∃k x,at' d.rules (j:Int)=some k/\at' d.nodes k=some x/\at' ((EnW f (fZ r l)).rl t) (j:Int)=some x.now:=by
 have B:=bCc h;have ll:(uD r l).length<=24000:=by rw [aTs];have:=mv_cN h;have:=rl_cN h;omega
 obtain⟨ns,C,u⟩:=frame6_ok (E:=EnW f (fZ r l)) (told:=f t) B a.nd a.first (by rw [aTs];omega) (by omega) (itms_rng h e) a.frames i
  (λn ns it x o _ c _ _=>look_M h e a i o c)
  (λn ns it x o p c _ s=>look_R h e a i o p c s)
  (λns p=>moved_6 h e a p)
 refine⟨_,C,⟨a.rs,a.names,a.dens,rfl,rfl,u,a.first,a.moves,a.rules⟩,rfl,rfl,λj y w=>?_⟩;obtain⟨q,z,D,F,G,H⟩:=aQa (r:=r) (l:=l) r.Rules 0 (cNs (mvC r)) j y w;have I:(uD r l)[cNs (mvC r)+q]? =some z:=by
  have b:((aA 0 (mvC r)).map (itm (MkR r l 0) (rlP r))).length=cNs (mvC r):=by rw [List.length_map,mP]
  unfold uD;rw [List.getElem?_append_right (by rw [b];omega),b,Nat.add_sub_cancel_left];exact F
 obtain⟨x,J,A,-⟩:=u.nd _ z I;rw [if_neg (Nat.not_lt_zero _)]at A;refine⟨((cNs (mvC r)+q:Nat):Int),x,?_,yQ J,?_⟩
 ·show at' v.rules (j:Int)=_;rw [a.rules,rE];exact D
 ·rw [aHl h e w t,A.now,G,H,Nat.zero_add];rfl
end
theorem bAl (s:Series) (t:Int) (b:Asc s.Samples) (p:s.Samples.length<=20000):
  Fge s t (0,(s.Samples.length:Int))=some (kLe s.Samples t:Int):=by
 unfold Fge fF;refine bCn (kLe s.Samples t) s.Samples.length _ ?_ ?_ s.Samples.length 0 s.Samples.length FU (by omega) (Nat.zero_le _) (aBh _ _) (Nat.le_refl _) (nH (by omega))
 ·intro k lo hi d e _ _;obtain⟨_,a⟩:=mid_ok d e;have i:IntKind.i64.wrap ((lo:Int)+(hi:Int))=((lo+hi:Nat):Int):=by rw [Go.OB.wrap_i64 (by omega) (by omega)];omega
  have j:quo' .i64 ((lo+hi:Nat):Int) 2=some (((lo+hi)/2:Nat):Int):=by
   unfold quo';rw [if_neg (by omega),Int.tdiv_eq_ediv_of_nonneg (by omega),Go.OB.wrap_i64 (by omega) (by omega)]
   congr 1
  have o:IntKind.i64.wrap ((((lo+hi)/2:Nat):Int)+1)=(((lo+hi)/2+1:Nat):Int):=fO (n:=20000) (by omega) (by omega);simp only [zH,dT (show(lo:Int)<(hi:Int)by omega),zS,i,j,zC,rE,a,o,xG];have q:=aGf b t a
  by_cases c:(lo+hi)/2<kLe s.Samples t
  ·rw [if_pos c,if_pos (q.2 c)]
  ·rw [if_neg c,if_neg (λh=>c (q.1 h))]
 ·intro k;simp only [zH,qD (show¬((kLe s.Samples t:Int)<(kLe s.Samples t:Int))by omega),zK]
theorem rHeld_eq (s:Series)(t g:Int)(c:Asc s.Samples)(d:s.Samples.length<=20000):Fdo s t g=some (hld s t g):=by
 unfold Fdo hld;have h:=aBh (λx:eP=>decide (x.At<=t)) s.Samples;change kLe s.Samples t<=_ at h;simp only [zH,bAl s t c d,zC];generalize kLe s.Samples t=n at *
 cases n with
 |zero=>rfl
 |succ n=>
  obtain⟨x,i⟩: ∃x,s.Samples[n]? =some x:=⟨_,gE (by omega)⟩;have e:IntKind.i64.wrap (((n+1:Nat):Int)-1)=(n:Int):=by rw [Go.OB.wrap_i64 (by omega) (by omega)];omega
  simp only [qD (show¬(((n+1:Nat):Int)=0)by omega),zK,e,rE,i,zC,Fgx,zH];generalize decide (3<=x.Mark)=a;generalize decide (g<IntKind.i64.wrap (t-x.At))=b
  cases a<;>cases b<;>rfl
theorem aXp (l:List Track) (n:Int) (h:TK l) (b:0<=n) (c:n<=4194303):Fdi l n=some (l.map (inT n)):=by
 obtain⟨_,d⟩:=aKe h;unfold Fdi Fjf;simp only [zH];rw [show(([]:List gY),(0:Int))=(λ(i:Nat)=>((l.take i).map (inT n),(i:Int))) 0 by simp];rw [xO (λ(i:Nat)=>((l.take i).map (inT n),(i:Int))) l (some (l.map (inT n))) (by omega) ?_ ?_];rfl;intro k i x a hi;obtain⟨g1,g2,g3⟩:=d i x a;simp only [bDc b c];rw [yP hi,zS,yQ a,zC,zC,rHeld_eq _ _ _ g1 g2,zC];rw [apT _ _ (by simp;omega),zC,fO hi (by omega),mO a,List.map_append];rfl;intro k;rw [yR,zK,List.take_length]
theorem tel_I {l:List Track} (h:TK l) (a:Int):FrI l (tel l a):=by
 refine⟨λt=>bBt l a t,λt _ b=>?_⟩;unfold tel at b;obtain⟨y,d,rfl⟩:=List.mem_map.1 b;obtain⟨i,hi⟩:=List.getElem?_of_mem d;have e:=((bBj y.Series).1 (h.s i y hi)).2.2;show _<=(hld y.Series _ y.Long).1.N/\(hld y.Series _ y.Long).1.N<=_;unfold hld;split;exact⟨by decide,by decide⟩;rename_i n _;split;rename_i z j;split;exact⟨by decide,by decide⟩;have q:=e n z j;unfold aQw at q;split at q;exact absurd q (by decide);rename_i c;simp only [Bool.or_eq_true,Bool.not_eq_true',Bool.and_eq_false_iff,decide_eq_false_iff_not]at c;show _<=z.N/\z.N<=_;omega;exact⟨by decide,by decide⟩
section
variable {r:Rules}{l:List Track}
theorem aWl (h:GB r l){a:Int}(k:Nat)(b:0<=a)(c:a+k<=4194303):Fdi l (a+(k:Int))=some (tel l a k):=aXp l _ h.t (by omega) (by omega)
end
end Go.Lf
