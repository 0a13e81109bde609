/- Laws that the claim stands on; no condition beyond those stated. -/
import Derived.Test.YtibkjjklfhfipacGreatDoorTEa
namespace Go.Lf
open Go.OB
theorem aUx (s:Str): ∀(l:List Str) (i:Nat),s∈l->eU (λi x=>if decide (x=s)=true then some (some (i:Int))else none) (some (-1)) l i=some (mM (aY l i) s 0)
 | [],_,h=>by simp at h
 |x::l,i,h=>by
  rw [eU,aY,aFm]
  by_cases c:x=s
  ·rw [if_pos c];simp [c]
  ·rw [if_neg c,<-aUx s l (i+1) ((List.mem_cons.1 h).resolve_left (Ne.symm c))];simp [c]
theorem aUd (l:List Str) (s:Str) (b:l.length<=9223372036854775807) (h:s∈l):Fac l s=some (mM (aY l 0) s 0):=by
 rw [<-aUx s l 0 h];unfold Fac;simp only [xE];unfold Fh9;refine yS l _ _ b ?_ ?_;intro k i x c hi;simp only [zD];rw [yA hi,zL,yB c,zA,fC hi b];cases decide (x=s)<;>rfl;intro k;simp only [zD];rw [yC];rfl
theorem idx_zip (l:List Str) (s:Str) (b:l.length<=9223372036854775807) (h:s∈l):aBt l s=mM (aY l 0) s 0:=by
 have e:Fai l s=some (mM (aY l 0) s 0):=by
  rw [<-aUx s l 0 h];unfold Fai;simp only [zD,xE];unfold Fdq;refine yS l _ _ b ?_ ?_
  ·intro c i x d hi;simp only [zD];rw [yA hi,zL,yB d,zA,fC hi b,decide_eq_decide.2 (eq_comm:s=x↔x=s)]
   cases decide (x=s)<;>rfl
  ·intro c;simp only [zD];rw [yC];rfl
 unfold aBt;rw [e];rfl
theorem fo_map {b:Type}(g:b->Str)(s:Str): ∀(l:List b) (i:Nat),eU (λi x=>if decide (g x=s)=true then some (some (i:Int))else none) (some (-1)) l i=eU (λi x=>if decide (x=s)=true then some (some (i:Int))else none) (some (-1)) (l.map g) i
 | [],_=>rfl
 |x::l,i=>by
  rw [List.map_cons,eU,eU,fo_map g s l (i+1)]
def ruI (r:Rules)(s:Str):Int:=mM (aY (r.Rules.map Rule.Name) 0) s 0
theorem bCo (r:Rules) (s:Str) (b:r.Rules.length<=9223372036854775807) (h:s∈r.Rules.map Rule.Name):Fam r s=some (ruI r s):=by
 unfold ruI;rw [<-aUx s _ 0 h,<-fo_map];unfold Fam;simp only [xE];unfold Fif;refine yS r.Rules _ _ b ?_ ?_;intro k i x c hi;simp only [zD];rw [yA hi,zL,yB c,zA,fC hi b];cases decide (x.Name=s)<;>rfl;intro k;simp only [zD];rw [yC];rfl
theorem aZp (s:Str): ∀(l:List Str) (i k:Nat),s∈l.take k->mM (aY (l.take k) i) s 0=mM (aY l i) s 0
 | [],i,k,h=>by simp at h
 |x::l,i,0,h=>by simp at h
 |x::l,i,k+1,h=>by
  rw [List.take_succ_cons,aY,aY,aFm,aFm]
  by_cases c:x=s
  ·rw [if_pos c,if_pos c]
  ·rw [if_neg c,if_neg c];exact aZp s l (i+1) k ((List.mem_cons.1 h).resolve_left (Ne.symm c))
theorem ru_at {r:Rules}{l:List Track}{i:Nat}{s:Str}(h:s∈(r.Rules.take i).map Rule.Name): ∃(j:Nat) (x:Rule),ruI r s=(j:Int)/\(MkR r l i).rl s=(j:Int)/\j<i/\r.Rules[j]? =some x/\x.Name=s:=by
 obtain⟨j,b,d⟩:=uM s _ 0 h;have e:(r.Rules.map Rule.Name).take i=(r.Rules.take i).map Rule.Name:=by rw [List.map_take]
 have k:ruI r s=mM (aY ((r.Rules.take i).map Rule.Name) 0) s 0:=by
  unfold ruI;rw [<-e];exact(aZp s _ 0 i (by rw [e];exact h)).symm
 rw [Nat.zero_add]at b;rw [List.getElem?_map,Option.map_eq_some_iff]at d;obtain⟨x,c,n⟩:=d;have o:=(gS.1 c).1;rw [List.length_take]at o;refine⟨j,x,by rw [k];exact b,b,by omega,?_,n⟩;rw [List.getElem?_take_of_lt (by omega)]at c;exact c
theorem bBd {c:Cond}(g:Gt c):aUm c:=by
 have gk:=g.gk;have gs:=g.self;refine⟨gs.k1,λh=>List.eq_nil_of_length_eq_zero (gk.z h),λh=>aK (gk.o h),λh=>aFa (gk.t h),λh=>⟨gk.g h,g.kids⟩,λh=>⟨gk.fr h,gs.fr.2⟩,gs.n,gk.st⟩
theorem ph_at {r:Rules} (o:r.Phases.length<=20) (k: ∀(i:Nat) x,r.Phases[i]? =some x->x∉r.Phases.take i) {s:Str} (h:s∈r.Phases):Fac r.Phases s=some (aBt r.Phases s)/\(0<=aBt r.Phases s/\aBt r.Phases s<r.Phases.length)/\ ∀(i:Nat) u,r.Phases[i]? =some u->(s=u↔aBt r.Phases s=(i:Int)):=by
 rw [idx_zip _ _ (by omega) h];refine⟨aUd _ _ (by omega) h,?_⟩;obtain⟨j,n,b⟩:=uM s _ 0 h;rw [Nat.zero_add]at n;rw [n];have p:=(gS.1 b).1;refine⟨⟨by omega,by omega⟩,λi u d=>⟨λe=>?_,λe=>?_⟩⟩
 ·subst e;rcases Nat.lt_trichotomy j i with c|c|c
  ·exfalso;refine k i s d ?_;exact qS (i:=j) (by rw [List.getElem?_take_of_lt c];exact b)
  ·rw [c]
  ·exfalso;refine k j s b ?_;exact qS (i:=i) (by rw [List.getElem?_take_of_lt c];exact d)
 ·have:j=i:=by omega
  subst this;rw [b]at d;exact oI d
def mvC (r:Rules):List Cond:=r.Moves.map dH.When
def rlC (r:Rules):List Cond:=r.Rules.map Rule.When
def rlP (r:Rules)(s:Str):Int:=(at' (kF (cNs (mvC r)) (rlC r)) (ruI r s)).getD 0
def ev0 (r:Rules)(l:List Track):gG:=
 gG.mk r (l.map Track.Name) (nX l) [] 0 ((List.replicate r.Phases.length false).set 0 true)
  ((bZ 0 (mvC r)++bZ (cNs (mvC r)) (rlC r)).map (kC (rlP r))) ((cNs (mvC r):Nat):Int) (kF 0 (mvC r)) (kF (cNs (mvC r)) (rlC r))
theorem bCr {n:Nat}: ∀l:List Cond,(∀x∈l,cN x<=n)->cNs l<=n*l.length
 | [],_=>by rw [cNs];exact Nat.zero_le _
 |x::l,h=>by
  have c:=h x List.mem_cons_self;have d:=bCr l λy b=>h y (List.mem_cons_of_mem _ b)
  rw [cNs,List.length_cons,Nat.mul_add];omega
theorem begin_eq (r:Rules)(b:r.Phases.length<=20):Fe8 r=some ((List.replicate r.Phases.length false).set 0 true):=by
 unfold Fe8;have mk:make' 1 (r.Phases.length:Int) (false:Bool)=some (List.replicate r.Phases.length false):=by
  unfold make';rw [if_pos ⟨by omega,by omega,by omega⟩,Int.toNat_natCast]
 simp only [zD];rw [mk,zA,List.length_replicate]
 cases h:r.Phases.length with
 |zero=>rfl
 |succ n=>
  rw [dT (by omega:(0:Int)<((n+1:Nat):Int)),zL];have a:at' (List.replicate (n+1) false) 0=some false:=by
   have:=yB (l:=List.replicate (n+1) false) (i:=0) (x:=false) (by simp [List.replicate_succ]);exact this
  have s:set' (List.replicate (n+1) false) 0 true=some ((List.replicate (n+1) false).set 0 true):=by
   unfold set';rw [if_pos ⟨by omega,by rw [List.length_replicate];omega⟩];rfl
  rw [a,zA,s];rfl
def pM (r:Rules)(c:Cond):Prop:=Gt c/\qU pMv c=false/\ ∀s∈aZ c,s∈dB r
def pR (r:Rules)(i:Nat)(c:Cond):Prop:=Gt c/\qU (pRl r i) c=false/\ ∀s∈aZ c,s∈dB r
theorem bEe {r:Rules}(c x:Cond)(h:pM r c)(b:x∈c.Kids):pM r x:=⟨h.1.kid b,aMz b h.2.1,λs d=>h.2.2 s (aIc b d)⟩
theorem bCt {r:Rules}{i:Nat}(c x:Cond)(h:pR r i c)(b:x∈c.Kids):pR r i x:=⟨h.1.kid b,aMz b h.2.1,λs d=>h.2.2 s (aIc b d)⟩
theorem bGs {r:Rules}{l:List Track}(h:GB r l){m:dH}(hm:m∈r.Moves):pM r m.When:=⟨(h.g.mg m hm).1,(mv_ok h.c hm).2.2,λ_ b=>nm_mv hm b⟩
theorem bGt {r:Rules}{l:List Track}(h:GB r l){i:Nat}{x:Rule}(b:r.Rules[i]? =some x):pR r i x.When:=⟨(h.g.lg x (qS b)).1,(bBy h.c i x b).2,λ_ d=>nm_rl (qS b) d⟩
theorem pMv_no {c:Cond}(h:qU pMv c=false):c.Kind≠6/\c.Kind≠7:=by
 have q:=aEe h;unfold pMv at q;constructor<;>(intro e;rw [e]at q;simp at q)
theorem dN_20 {c:Cond}(g:Gt c):dN c<=1000000:=by have:=g.d;omega
theorem mv_cN {r:Rules}{l:List Track}(h:GB r l):cNs (mvC r)<=12000:=by
 have q:=bCr (n:=200) (mvC r) (λ_ b=>by obtain⟨m,hm,rfl⟩:=List.mem_map.1 b;exact(h.g.mg m hm).1.n);have:=h.g.m;unfold mvC at q⊢;rw [List.length_map]at q;omega
theorem rl_cN {r:Rules}{l:List Track}(h:GB r l):cNs (rlC r)<=12000:=by
 have q:=bCr (n:=200) (rlC r) (λ_ b=>by obtain⟨m,hm,rfl⟩:=List.mem_map.1 b;exact(h.g.lg m hm).1.n);have:=h.g.l;unfold rlC at q⊢;rw [List.length_map]at q;omega
theorem rlP_at {r:Rules}{i:Nat}{s:Str}{l:List Track} (h:s∈(r.Rules.take i).map Rule.Name): ∃(j:Nat) (x:Rule) (k:Int),ruI r s=(j:Int)/\(MkR r l i).rl s=(j:Int)/\j<i/\r.Rules[j]? =some x/\(kF (cNs (mvC r)) (rlC r))[j]? =some k/\rlP r s=k/\at' (kF (cNs (mvC r)) ((r.Rules.take i).map Rule.When)) (j:Int)=some k:=by
 obtain⟨j,x,c,n,o,d,-⟩:=ru_at (l:=l) h;have p:=(gS.1 d).1;have q:j<(kF (cNs (mvC r)) (rlC r)).length:=by rw [aEp];unfold rlC;rw [List.length_map];exact p
 have b:(kF (cNs (mvC r)) (rlC r))[j]? =some (kF (cNs (mvC r)) (rlC r))[j]:=gE q;refine⟨j,x,_,c,n,o,d,b,?_,?_⟩;unfold rlP;rw [c,kU,b];rfl;rw [kU,<-b];have e:rlC r=(r.Rules.take i).map Rule.When++(r.Rules.drop i).map Rule.When:=by rw [<-List.map_append,List.take_append_drop];rfl
 rw [e,aQj,List.getElem?_append_left];rw [aEp,List.length_map,List.length_take];omega
theorem empty_eq {r:Rules}{l:List Track}(h:GB r l):Ffn r l=some (ev0 r l):=by
 have g:=h.g;have B:=empty1 l (by have:=h.t.n;omega);have C:=begin_eq r g.p;have nm:=mv_cN h;have J:=rl_cN h;have D:=empty2 (r:=r) (ph:=(List.replicate r.Phases.length false).set 0 true) (nm:=l.map Track.Name) (ds:=l.map λt=>t.Series.Den) (rl:=rlP r) (pM r) bEe
  (λv c b=>⟨⟨b.1.self.fr.1,b.1.self.fr.2⟩,b.1.kids,λd=>absurd d (pMv_no b.2.1).2⟩) (λm hm=>bGs h hm) (by have:=g.m;omega) (λm hm=>dN_20 (g.mg m hm).1) (by show cNs (mvC r)<=_;omega)
 have ll:((bZ 0 (mvC r)).map (kC (rlP r))).length=cNs (mvC r):=by rw [List.length_map,nG]
 have w:=empty3 (r:=r) (ph:=(List.replicate r.Phases.length false).set 0 true) (nm:=l.map Track.Name) (ds:=l.map λt=>t.Series.Den) (rl:=rlP r) (ns:=(bZ 0 (mvC r)).map (kC (rlP r))) (mv:=kF 0 (mvC r)) (f0:=((cNs (mvC r):Nat):Int))
  (λi x e=>⟨pR r i,bCt,bGt h e,λv c E o b=>⟨⟨b.1.self.fr.1,b.1.self.fr.2⟩,b.1.kids,λd=>by
   have A:=(aEi i (aEe b.2.1)).2 d;obtain⟨_,_,_,F,a2,a3,a4,a5,G,H⟩:=rlP_at (l:=l) A;refine⟨ruI r c.Name,by rw [E];exact bCo r _ (by have:=g.l;omega) (by obtain⟨z,I,q⟩:=List.mem_map.1 A;exact List.mem_map.2 ⟨z,List.mem_of_mem_take I,q⟩),?_⟩;rw [o,ll,F,G];exact H⟩⟩) (by have:=g.l;omega) (λx e=>dN_20 (g.lg x e).1) (by rw [ll];show cNs (mvC r)+cNs (rlC r)<=_;omega)
 unfold Ffn;rw [C,zA,B,zA];dsimp only;rw [D,zA];simp only [zD];have s:((bZ 0 (r.Moves.map dH.When)).map (kC (rlP r))).length=cNs (mvC r):=ll;rw [ll]at w;rw [s];have u:Feg r ((List.replicate r.Phases.length false).set 0 true) (l.map Track.Name) (l.map λt=>t.Series.Den) (kF 0 (r.Moves.map dH.When)) ((cNs (mvC r):Nat):Int) (0,(bZ 0 (r.Moves.map dH.When)).map (kC (rlP r)),[])=_:=w;rw [u,zA];refine congrArg some ?_;unfold ev0;rw [List.map_append];rfl
def itm (M:Mk)(rl:Str->Int)(x:It):Itm:=⟨x.c,x.ks,M,if x.c.Kind=7 then rl x.c.Name else 0⟩
def bCv (b:Nat)(L:List Itm):Prop:= ∀(g:Nat) (it:Itm),L[g]? =some it->it.ks.length=it.c.Kids.length/\aUm it.c/\ ∀(j:Nat) (k:Int),it.ks[j]? =some k-> ∃(d:Nat) (y:Itm),k=((b+d:Nat):Int)/\d<g/\L[d]? =some y/\it.c.Kids[j]? =some y.c/\y.M=it.M
theorem bCv.app {b:Nat}{d w:List Itm} (A:bCv b d) (B:bCv (b+d.length) w):bCv b (d++w):=by
 intro g x e;by_cases c:g<d.length;rw [List.getElem?_append_left c]at e;obtain⟨h,a0,a2⟩:=A g x e;refine⟨h,a0,λj k n=>?_⟩;obtain⟨o,y,p,z,q,s,u⟩:=a2 j k n;exact⟨o,y,p,z,by rw [List.getElem?_append_left (by omega)];exact q,s,u⟩;rw [List.getElem?_append_right (by omega)]at e;obtain⟨h,a0,a2⟩:=B _ x e;refine⟨h,a0,λj k n=>?_⟩;obtain⟨o,y,p,z,q,s,u⟩:=a2 j k n;exact⟨d.length+o,y,by rw [p];congr 1;omega,by omega,by rw [List.getElem?_append_right (by omega),Nat.add_sub_cancel_left];exact q,s,u⟩
theorem aZv {b:Nat}{L:List It}{M:Mk}{rl:Str->Int}(h:aLq b L)(n: ∀x∈L,aUm x.c):bCv b (L.map (itm M rl)):=by
 intro g _ d;rw [List.getElem?_map,Option.map_eq_some_iff]at d;obtain⟨x,e,rfl⟩:=d;obtain⟨o,a2⟩:=h g x e;refine⟨o,n x (qS e),λj k p=>?_⟩;obtain⟨q,y,s,u,w,z⟩:=a2 j k p;exact⟨q,itm M rl y,s,u,by rw [List.getElem?_map,w];rfl,z,rfl⟩
theorem aPc {p:Cond->Prop}(e: ∀c x:Cond,p c->x∈c.Kids->p x): ∀(cs:List Cond) (b:Nat),(∀c∈cs,p c)-> ∀x∈bZ b cs,p x.c
 | [],b,_,x,d=>by rw [bZ]at d;simp at d
 |c::cs,b,j,x,d=>by
  rw [bZ]at d;rcases mA.1 d with h|h
  ·exact aKd e b c (j c List.mem_cons_self) x h
  ·exact aPc e cs _ (λy k=>j y (List.mem_cons_of_mem _ k)) x h
def aEw (r:Rules)(l:List Track):Nat->Nat->List Rule->List Itm
 |_,_,[]=>[]
 |i,b,x::xs=>(kD b x.When).map (itm (MkR r l i) (rlP r))++aEw r l (i+1) (b+(kD b x.When).length) xs
def uX (r:Rules)(l:List Track):List Itm:=(bZ 0 (mvC r)).map (itm (MkR r l 0) (rlP r))++aEw r l 0 (cNs (mvC r)) r.Rules
section
variable {r:Rules}{l:List Track}
theorem itmL_B: ∀(xs:List Rule) (i b:Nat),(∀(k:Nat) x,xs[k]? =some x->pR r (i+k) x.When)->bCv b (aEw r l i b xs)
 | [],i,b,_=>λg it h=>by rw [aEw]at h;simp at h
 |x::xs,i,b,h=>by
  rw [aEw];have d:=h 0 x rfl;refine(aZv (aXp b x.When) (λy c=>bBd (aKd bCt b x.When d y c).1)).app ?_;rw [List.length_map];exact itmL_B xs (i+1) _ λk y c=>by rw [show i+1+k=i+(k+1)by omega];exact h (k+1) y (by simpa using c)
theorem bGi: ∀(xs:List Rule) (i b:Nat),(aEw r l i b xs).map (λy=>(⟨y.c,y.ks⟩:It))=bZ b (xs.map Rule.When)
 | [],_,_=>rfl
 |x::xs,i,b=>by
  rw [aEw,List.map_append,bGi xs,List.map_cons,bZ,List.map_map]
  congr 1
  exact List.map_id _
theorem bGm: ∀(xs:List Rule) (i b:Nat),∀y∈aEw r l i b xs,y.rule=if y.c.Kind=7 then rlP r y.c.Name else 0
 | [],_,_,y,h=>by rw [aEw]at h;simp at h
 |x::xs,i,b,y,h=>by
  rw [aEw]at h;rcases mA.1 h with h|h
  ·obtain⟨z,d,rfl⟩:=List.mem_map.1 h;rfl
  ·exact bGm xs _ _ y h
theorem bHo: ∀y∈uX r l,y.rule=if y.c.Kind=7 then rlP r y.c.Name else 0:=λy h=>by
 unfold uX at h;rcases mA.1 h with h|h
 ·obtain⟨_,_,rfl⟩:=List.mem_map.1 h;rfl
 ·exact bGm _ _ _ y h
theorem aVu:(uX r l).map (λy=>(⟨y.c,y.ks⟩:It))=bZ 0 (mvC r)++bZ (cNs (mvC r)) (rlC r):=by
 unfold uX;rw [List.map_append,bGi,List.map_map];congr 1;exact List.map_id _
theorem aYq:(uX r l).length=cNs (mvC r)+cNs (rlC r):=by
 have h:=congrArg List.length (aVu (r:=r) (l:=l));rw [List.length_map,List.length_append,nG,nG]at h;exact h
theorem bEy (h:GB r l):bAf (uX r l):=by
 have q:bCv 0 (uX r l):=by
  unfold uX;refine(aZv (bHu _ 0) (λy e=>bBd (aPc bEe (mvC r) 0 (λc n=>by obtain⟨m,hm,rfl⟩:=List.mem_map.1 n;exact bGs h hm) y e).1)).app ?_;rw [List.length_map,nG,Nat.zero_add];exact itmL_B _ 0 _ λk _ o=>by rw [Nat.zero_add];exact bGt h o
 intro g it d;obtain⟨a,b,c⟩:=q g it d;refine⟨a,b,λj k p=>?_⟩;obtain⟨s,y,u,w⟩:=c j k p;exact⟨s,y,by rw [u,Nat.zero_add],w⟩
theorem aZo: ∀(xs:List Rule) (i b:Nat),(∀(k:Nat) x,xs[k]? =some x->pR r (i+k) x.When)-> ∀(g:Nat) it,(aEw r l i b xs)[g]? =some it-> ∃k,k<xs.length/\it.M=MkR r l (i+k)/\pR r (i+k) it.c/\
  ∀(j:Nat) y,j<k->xs[j]? =some y-> ∃(q:Nat) (z:Itm),(kF b (xs.map Rule.When))[j]? =some ((b+q:Nat):Int)/\q<g/\(aEw r l i b xs)[q]? =some z/\z.c=y.When/\z.M=MkR r l (i+j)
 | [],i,b,_,g,it,h=>by rw [aEw]at h;simp at h
 |x::xs,i,b,h,g,it,e=>by
  rw [aEw]at e⊢;have u:=h 0 x rfl;have F:=aJf b x.When;have d:((kD b x.When).map (itm (MkR r l i) (rlP r))).length=(kD b x.When).length:=List.length_map _
  by_cases c:g<(kD b x.When).length
  ·rw [List.getElem?_append_left (by rw [d];exact c),List.getElem?_map,Option.map_eq_some_iff]at e;obtain⟨y,n,rfl⟩:=e;exact⟨0,by simp,rfl,aKd bCt b x.When u y (qS n),λj y o=>absurd o (Nat.not_lt_zero _)⟩
  ·rw [List.getElem?_append_right (by rw [d];omega),d]at e;obtain⟨k,_,p,s,w⟩:=aZo xs (i+1) (b+(kD b x.When).length) (λk y n=>by rw [show i+1+k=i+(k+1)by omega];exact h (k+1) y (by simpa using n)) _ it e;have A:i+1+k=i+(k+1):=by omega
   rw [A]at p s;refine⟨k+1,by simp;omega,p,s,λj y o n=>?_⟩
   cases j with
   |zero=>
    obtain rfl:x=y:=by simpa using n
    refine⟨(kD b x.When).length-1,itm (MkR r l i) (rlP r) ⟨x.When,(dA b x.When.Kids).2⟩,?_,by omega,?_,rfl,rfl⟩
    ·rw [List.map_cons,kF,List.getElem?_cons_zero];congr 2;omega
    ·rw [List.getElem?_append_left (by rw [d];omega),List.getElem?_map,aGb];rfl
   |succ j=>
    obtain⟨q,z,B,_,C,D,E⟩:=w j y (by omega) (by simpa using n);refine⟨(kD b x.When).length+q,z,?_,by omega,?_,D,by rw [E];congr 1;omega⟩
    ·rw [List.map_cons,kF,List.getElem?_cons_succ,B];congr 2;omega
    ·rw [List.getElem?_append_right (by rw [d];omega),d,Nat.add_sub_cancel_left];exact C
theorem aUf: ∀(xs:List Rule) (i b j:Nat) (y:Rule),xs[j]? =some y-> ∃(q:Nat) (z:Itm),(kF b (xs.map Rule.When))[j]? =some ((b+q:Nat):Int)/\(aEw r l i b xs)[q]? =some z/\z.c=y.When/\z.M=MkR r l (i+j)
 | [],_,_,j,y,h=>by simp at h
 |x::xs,i,b,0,y,h=>by
  obtain rfl:x=y:=by simpa using h
  have p:=aJf b x.When;have d:((kD b x.When).map (itm (MkR r l i) (rlP r))).length=(kD b x.When).length:=List.length_map _;refine⟨(kD b x.When).length-1,itm (MkR r l i) (rlP r) ⟨x.When,(dA b x.When.Kids).2⟩,?_,?_,rfl,rfl⟩
  ·rw [List.map_cons,kF,List.getElem?_cons_zero];congr 2;omega
  ·rw [aEw,List.getElem?_append_left (by rw [d];omega),List.getElem?_map,aGb];rfl
 |x::xs,i,b,j+1,y,h=>by
  have d:((kD b x.When).map (itm (MkR r l i) (rlP r))).length=(kD b x.When).length:=List.length_map _;obtain⟨q,z,e,k,n,o⟩:=aUf xs (i+1) (b+(kD b x.When).length) j y (by simpa using h);refine⟨(kD b x.When).length+q,z,?_,?_,n,by rw [o];congr 1;omega⟩
  ·rw [List.map_cons,kF,List.getElem?_cons_succ,e];congr 2;omega
  ·rw [aEw,List.getElem?_append_right (by rw [d];omega),d,Nat.add_sub_cancel_left];exact k
end
theorem bDc (E:En) (M:Mk): ∀(m:Nat) (c:Cond),dN c<=m->Gt c->ndA E 0 (mkN M c)=mkN M c
 |0,c,h,_=>by have:=uA c;omega
 |m+1,c,h,g=>by
  have d: ∀x∈c.Kids,ndA E 0 (mkN M x)=mkN M x:=λx b=>by
   obtain⟨_,n⟩:=List.getElem?_of_mem b;exact bDc E M m x (by have:=(uC g.ok n).2.1;omega) (g.kid b)
  have gk:=g.gk;have gs:=g.self;have k:aKh E 0 (c.Kids.map (mkN M))=c.Kids.map (mkN M):=by
   rw [bAh,List.map_map];exact List.map_congr_left λx b=>d x b
  rw [jT];rcases kinds gs.k1 with e|e|e|e|e|e|e|e|e|e|e|e|e|e|e<;>rw [e]<;>simp only [mkK,Int.reduceEq,if_true,if_false,or_true,true_or,or_self]
  ·rw [ndA]
  ·rw [ndA]
  ·rw [ndA]
  ·rw [ndA]
  ·rw [ndA,win_zero]
  ·rw [ndA]
  ·rw [ndA]
  ·obtain⟨x,b⟩:=aK (gk.o (by omega));rw [b,ndA,List.map_singleton,List.getD_cons_zero,d x (by rw [b];exact List.mem_cons_self)]
  ·rw [ndA,k]
  ·rw [ndA,k]
  ·obtain⟨x,b⟩:=aK (gk.o (by omega));rw [b,ndA,List.map_singleton,List.getD_cons_zero,d x (by rw [b];exact List.mem_cons_self),win_zero]
  ·obtain⟨x,b⟩:=aK (gk.o (by omega));rw [b,ndA,List.map_singleton,List.getD_cons_zero,d x (by rw [b];exact List.mem_cons_self),win_zero]
  ·obtain⟨x,b⟩:=aK (gk.o (by omega));rw [b,ndA,List.map_singleton,List.getD_cons_zero,d x (by rw [b];exact List.mem_cons_self),win_zero]
  ·obtain⟨x,y,b⟩:=aFa (gk.t e);rw [b];show ndA E 0 (.since (mkN M x) (mkN M y) 0 false)= .since (mkN M x) (mkN M y) 0 false;rw [ndA,d x (by rw [b];simp),d y (by rw [b];simp)];rfl
  ·obtain⟨x,b⟩:=aK (gk.o (by omega));rw [b,List.map_singleton,List.getD_cons_zero,ndA,d x (by rw [b];exact List.mem_cons_self)];rfl
theorem aDd {r:Rules}{l:List Track} (h:GB r l) (f:Nat->List fB):NewA f (fJ r l):=by
 have g:=h.g;refine⟨λx b=>?_,λk c=>?_⟩
 ·obtain⟨m,hm,rfl⟩:=List.mem_map.1 b;exact bDc _ _ _ m.When (Nat.le_refl _) (g.mg m hm).1
 ·obtain⟨i,hi⟩:=List.getElem?_of_mem c;change (r.Rules.mapIdx (rlN r l))[i]? =some k at hi;rw [List.getElem?_mapIdx,Option.map_eq_some_iff]at hi;obtain⟨x,b,rfl⟩:=hi;exact bDc _ _ _ x.When (Nat.le_refl _) (g.lg x (qS b)).1
structure FrI (l:List Track)(f:Nat->List fB):Prop where
 len: ∀t,(f t).length=l.length
 bd: ∀t x,x∈f t-> -1125899906842624<=x.N/\x.N<=1125899906842624
section
variable {r:Rules}{l:List Track}{f:Nat->List fB}{t:Nat}
theorem bHc (h:GB r l)(b:FrI l f)(t:Nat):((EnW f (fJ r l)).ps t).length=r.Phases.length:=by
 rw [ps_A (uI h) b.len (aDd h f),aPi,List.length_replicate]
theorem rlE_rng (h:GB r l)(b:FrI l f)(t:Nat): ∀x∈(EnW f (fJ r l)).rl t,0<=x/\x<=2:=(aUz (aNn (uI h) b.len t) (b.len t)).2.2.1
theorem bFi (h:GB r l)(o:FrI l f){R:Nat}(k:Nd)(j:wfN l.length r.Phases.length R k)(t:Nat):0<=den (EnW f (fJ r l)) k t/\den (EnW f (fJ r l)) k t<=2:=by
 have g:=h.g
 cases k with
 |constant c=>rw [wfN]at j;rw [den];exact j
 |number tr op n=>
  rw [wfN]at j;rw [den];dsimp only;unfold aMt;obtain⟨y,e,q⟩:=aTm (m:=(EnW f (fJ r l)).m t) (tr:=tr) (op:=op) (n:=n) ⟨j.1,by show tr<((f t).length:Int);rw [o.len];exact j.2⟩;rw [e];exact q
 |pair a b da db op=>
  rw [wfN]at j;rw [den];dsimp only;unfold pairT;obtain⟨y,e,q⟩:=bGl (m:=(EnW f (fJ r l)).m t) (a:=a) (b:=b) (da:=da) (db:=db) (op:=op) ⟨⟨j.1.1,by show a<((f t).length:Int);rw [o.len];exact j.1.2⟩,j.2.1,by show b<((f t).length:Int);rw [o.len];exact j.2.2⟩;rw [e];exact q
 |steady tr n fr _=>
  rw [den];dsimp only;unfold stT;split
  ·omega
  ·split<;>omega
 |phase p=>
  rw [wfN]at j;rw [den];dsimp only;unfold pW;have u:=bHc h o t;obtain⟨y,e,q⟩:=aXs (m:=(EnW f (fJ r l)).m t) (p:=p) ⟨j.1,by show p<(((EnW f (fJ r l)).ps t).length:Int);rw [u];exact j.2⟩ (by show((EnW f (fJ r l)).ps t).length<=_;rw [u];have:=g.p;omega);rw [e];exact q
 |rule i=>
  rw [den];dsimp only;unfold aEf
  cases e:at' ((EnW f (fJ r l)).m t).rules i with
  |none=>exact⟨by decide,by decide⟩
  |some y=>
   have m:y∈(EnW f (fJ r l)).rl t:=by
    unfold at' at e;split at e
    ·exact qS e
    ·exact absurd e (by simp)
   exact rlE_rng h o t y m
 |not k=>rw [den];exact bHb _
 |group _ s=>rw [den];cases s<;>exact aXq (by decide) _ _ (by decide)
 |count k n fr a b=>rw [den];exact bAc _ _ _
 |since a b c _=>
  rw [den]
  cases t with
  |zero=>rw [tK];exact aDc _ _ _
  |succ t=>rw [tK];exact aDc _ _ _
 |rises k a b=>rw [den];exact aPs _ _
theorem wf_M (h:GB r l){c:Cond}(b:pM r c):wfN l.length r.Phases.length 0 (mkN (MkR r l 0) c):=by
 refine aOw (MkR r l 0) pMv (λc b=>?_) (dN c) c (Nat.le_refl _) b.1 (λs d=>aPz (h.n s (b.2.2 s d))) b.2.1;unfold pMv at b;constructor<;>(intro e;rw [e]at b;simp at b)
theorem wf_R (h:GB r l){i:Nat}{c:Cond}(b:pR r i c):wfN l.length r.Phases.length i (mkN (MkR r l i) c):=by
 refine aOw (MkR r l i) (pRl r i) (λc b=>?_) (dN c) c (Nat.le_refl _) b.1 (λs d=>aPz (h.n s (b.2.2 s d))) b.2.1;obtain⟨k,o⟩:=aEi i b;refine⟨λe=>bDy h (k e),λe=>?_⟩;obtain⟨_,_,-,p,_,-⟩:=ru_at (l:=l) (o e);rw [p];omega
theorem itms_M (h:GB r l){n:Nat}{it:Itm}(d:n<cNs (mvC r))(b:(uX r l)[n]? =some it):it.M=MkR r l 0/\pM r it.c:=by
 unfold uX at b;rw [List.getElem?_append_left (by rw [List.length_map,nG];exact d),List.getElem?_map,Option.map_eq_some_iff]at b;obtain⟨y,e,rfl⟩:=b;exact⟨rfl,aPc bEe (mvC r) 0 (λc j=>by obtain⟨m,hm,rfl⟩:=List.mem_map.1 j;exact bGs h hm) y (qS e)⟩
theorem itms_R (h:GB r l){n:Nat}{it:Itm}(u:cNs (mvC r)<=n)(e:(uX r l)[n]? =some it): ∃k,k<r.Rules.length/\it.M=MkR r l k/\pR r k it.c/\
    ∀(j:Nat) y,j<k->r.Rules[j]? =some y-> ∃(q:Nat) (z:Itm),(kF (cNs (mvC r)) (rlC r))[j]? =some (q:Int)/\q<n/\(uX r l)[q]? =some z/\z.c=y.When/\z.M=MkR r l j:=by
 have b:((bZ 0 (mvC r)).map (itm (MkR r l 0) (rlP r))).length=cNs (mvC r):=by rw [List.length_map,nG]
 have d:=e;unfold uX at d;rw [List.getElem?_append_right (by rw [b];exact u),b]at d;obtain⟨k,w,o,p,A⟩:=aZo r.Rules 0 _ (λk _ B=>by rw [Nat.zero_add];exact bGt h B) _ it d;rw [Nat.zero_add]at o p;refine⟨k,w,o,p,λj y C D=>?_⟩;obtain⟨q,z,E,_,F,G,s⟩:=A j y C D;rw [Nat.zero_add]at s;refine⟨cNs (mvC r)+q,z,E,by omega,?_,G,s⟩;unfold uX;rw [List.getElem?_append_right (by rw [b];omega),b,Nat.add_sub_cancel_left];exact F
theorem itms_rng (h:GB r l) (e:FrI l f): ∀it∈uX r l,∀s,0<=den (EnW f (fJ r l)) (mkN it.M it.c) s/\den (EnW f (fJ r l)) (mkN it.M it.c) s<=2:=λit d s=>by
 obtain⟨n,j⟩:=List.getElem?_of_mem d
 by_cases c:n<cNs (mvC r)
 ·obtain⟨a,b⟩:=itms_M h c j;rw [a];exact bFi h e _ (wf_M h b) s
 ·obtain⟨_,-,a,b,-⟩:=itms_R h (by omega) j;rw [a];exact bFi h e _ (wf_R h b) s
theorem at_eq6 (h:GB r l)(d:FrI l f){v:gG}(e:v.names=l.map Track.Name)(hd:v.dens=nX l)(j:v.told=f t){s:Str}(k:s∈dB r)(i:Nat):
  Fae v s=some ((EnW f (fJ r l)).tk ((MkR r l i).tr s) t,(MkR r l i).dn ((MkR r l i).tr s))/\at' ((EnW f (fJ r l)).told t) ((MkR r l i).tr s)=some ((EnW f (fJ r l)).tk ((MkR r l i).tr s) t):=by
 have hm:=h.n s k;have c:=aPz hm;have o:=aUd (l.map Track.Name) s (by rw [List.length_map];have:=h.t.n;omega) hm;obtain⟨_,p⟩:=aAq (l:=f t) (i:=trI l s) (by rw [d.len];exact c);have a2:at' ((EnW f (fJ r l)).told t) ((MkR r l i).tr s)=some ((EnW f (fJ r l)).tk ((MkR r l i).tr s) t):=by
  unfold En.tk;show at' (f t) (trI l s)=some ((at' (f t) (trI l s)).getD _);rw [p];rfl
 refine⟨?_,a2⟩;have b:at' (f t) (trI l s)=some ((EnW f (fJ r l)).tk ((MkR r l i).tr s) t):=a2;have a3:at' (nX l) (trI l s)=some ((MkR r l i).dn ((MkR r l i).tr s)):=at_D (by unfold nX;rw [List.length_map];exact c);unfold Fae;rw [e,hd,j,o,zA];show gB (at' (f t) (trI l s)) _=_;rw [b,zA];show gB (at' (nX l) (trI l s)) _=_;rw [a3,zA]
theorem tk_bd (c:FrI l f)(w:fA)(tr:Int)(s:Nat): -1125899906842624<=((EnW f w).tk tr s).N/\((EnW f w).tk tr s).N<=1125899906842624:=by
 unfold En.tk
 cases e:at' ((EnW f w).told s) tr with
 |none=>exact⟨by decide,by decide⟩
 |some y=>
  have m:y∈f s:=by
   have b:at' (f s) tr=some y:=e;unfold at' at b;split at b
   ·exact qS b
   ·exact absurd b (by simp)
  exact c.bd s y m
theorem aXw (h:GB r l) (b:FrI l f) {v:gG} (e:v.names=l.map Track.Name) (hd:v.dens=nX l) (j:v.told=f t) (d:v.frames=(t:Int)) (n:t<=1000000000) {i:Nat}{c:Cond}{x:gJ} (o: ∀s∈aZ c,s∈dB r)
  (ph:c.Kind=6->v.phase=(EnW f (fJ r l)).ps t/\v.phase.length<=2000000/\Fac v.r.Phases c.Name=some ((MkR r l i).ph c.Name)/\0<=(MkR r l i).ph c.Name/\(MkR r l i).ph c.Name<v.phase.length)
  (rl:c.Kind=7-> ∃y,at' v.nodes x.rule=some y/\at' ((EnW f (fJ r l)).rl t) ((MkR r l i).rl c.Name)=some y.now):Looks (EnW f (fJ r l)) (MkR r l i) t c x v:=by
 have nm: ∀s∈nm1 c,s∈dB r:=λs p=>o s (by rw [aAt,mA];exact .inl p)
 refine⟨d,n,λk=>at_eq6 h b e hd j (nm _ ?_) i,λk=>at_eq6 h b e hd j (nm _ ?_) i,λtr s=>tk_bd b _ tr s,ph,rl⟩
 ·unfold nm1;rcases k with k|k|k<;>simp [k]
 ·unfold nm1;simp [k]
end
structure EvI (r:Rules)(l:List Track)(f:Nat->List fB)(t:Nat)(v:gG):Prop where
 rs:v.r=r
 names:v.names=l.map Track.Name
 dens:v.dens=nX l
 frames:v.frames=(t:Int)
 phase:v.phase=psB (EnW f (fJ r l)) (fJ r l) t
 nd:uP (EnW f (fJ r l)) (uX r l) v.nodes 0 t
 first:v.first=((cNs (mvC r):Nat):Int)
 moves:v.moves=kF 0 (mvC r)
 rules:v.rules=kF (cNs (mvC r)) (rlC r)
section
variable {r:Rules}{l:List Track}{f:Nat->List fB}{t:Nat}{v:gG}
theorem evI_zero (h:GB r l) (f:Nat->List fB):EvI r l f 0 (ev0 r l):=by
 refine⟨rfl,rfl,rfl,rfl,rfl,⟨?_,λg it b=>?_⟩,rfl,rfl,rfl⟩;show(List.map _ _).length=_;rw [List.length_map,<-aVu (l:=l),List.length_map];have hi:=(bEy h g it b).2.1;have e:(bZ 0 (mvC r)++bZ (cNs (mvC r)) (rlC r))[g]? =some ⟨it.c,it.ks⟩:=by rw [<-aVu (l:=l),List.getElem?_map,b];rfl
 refine⟨kC (rlP r) ⟨it.c,it.ks⟩,?_,?_,?_⟩;show(List.map _ _)[g]? =_;rw [List.getElem?_map,e];rfl;rw [if_neg (Nat.not_lt_zero _)];exact node0_I (it:=⟨it.c,it.ks⟩) hi;rw [bHo it (qS b)];rfl
theorem aVj (h:GB r l)(b:FrI l f){j:Nat}{y:Rule}(c:r.Rules[j]? =some y)(t:Nat):at' ((EnW f (fJ r l)).rl t) (j:Int)=some (den (EnW f (fJ r l)) (mkN (MkR r l j) y.When) t):=by
 rw [rl_A (uI h) b.len (aDd h f) t,kU,List.getElem?_map];show Option.map _ ((r.Rules.mapIdx (rlN r l))[j]?)=_;rw [List.getElem?_mapIdx,c];rfl
theorem look_R (h:GB r l) (o:FrI l f) (d:EvI r l f t v) (D:t<=1000000000) {n:Nat}{ns:List gJ}{it:Itm}{x:gJ} (E:cNs (mvC r)<=n) (F:uP (EnW f (fJ r l)) (uX r l) ns n t) (b:(uX r l)[n]? =some it) (s:x.rule=it.rule):
    Looks (EnW f (fJ r l)) it.M t it.c x (wN v (f t) ((EnW f (fJ r l)).ps t) ns):=by
 obtain⟨k,_,G,u,H⟩:=itms_R h E b;have g:=h.g;obtain⟨m1,m2⟩:=aEi k (aEe u.2.1);have A:=bHc h o t;rw [G];refine aXw (v:=wN v (f t) ((EnW f (fJ r l)).ps t) ns) h o d.names d.dens rfl d.frames D u.2.2 (λe=>?_) λe=>?_;obtain⟨I,B,-⟩:=ph_at g.p g.pd (m1 e);refine⟨rfl,by show((EnW f (fJ r l)).ps t).length<=_;rw [A];have:=g.p;omega,?_,B.1,?_⟩;show Fac v.r.Phases _=_;rw [d.rs];exact I;show aBt r.Phases it.c.Name<(((EnW f (fJ r l)).ps t).length:Int);rw [A];exact B.2;obtain⟨j,y,_,_,a2,a3,a4,a5,J,-⟩:=rlP_at (l:=l) (m2 e);obtain⟨_,_,C,K,L,N,O⟩:=H j y a3 a4;obtain⟨w,P,Q⟩:=F.now (v:=wN v (f t) ((EnW f (fJ r l)).ps t) ns) L K;refine⟨w,?_,?_⟩;rw [s,bHo it (qS b),if_pos e,J];rw [a5]at C;rw [oI C];exact yB P;rw [a2,aVj h o a4 t,Q,N,O]
theorem look_M (h:GB r l)(k:FrI l f)(b:EvI r l f t v)(o:t<=1000000000){n:Nat}{ns:List gJ}{it:Itm}{x:gJ}{ph:List Bool}(p:n<cNs (mvC r))(d:(uX r l)[n]? =some it):
    Looks (EnW f (fJ r l)) it.M t it.c x (wN v (f t) ph ns):=by
 obtain⟨q,j⟩:=itms_M h p d;obtain⟨s,u⟩:=pMv_no j.2.1;rw [q];exact aXw (v:=wN v (f t) ph ns) h k b.names b.dens rfl b.frames o j.2.2 (λe=>absurd e s) λe=>absurd e u
theorem moved_6 (h:GB r l) (j:FrI l f) (b:EvI r l f t v) {ns:List gJ} (C:uP (EnW f (fJ r l)) (uX r l) ns (cNs (mvC r)) t):
  Fbp (wN v (f t) v.phase ns) v.phase=some ((EnW f (fJ r l)).ps t):=by
 have g:=h.g;have M:=g.p;rw [ps_A (uI h) j.len (aDd h f) t,b.phase];have n:((fJ r l).moves.map λx=>(x,den (EnW f (fJ r l)) x.when t)).length=r.Moves.length:=by
  rw [List.length_map];show(r.Moves.map (mvN r l)).length=_;rw [List.length_map]
 refine moved_ok6 (v:=wN v (f t) (psB (EnW f (fJ r l)) (fJ r l) t) ns) (zs:=(fJ r l).moves.map λx=>(x,den (EnW f (fJ r l)) x.when t)) (P:=r.Phases.length) ⟨?_,?_,?_,λk _ o=>?_⟩ _ ?_ (by omega)
 ·show v.r.Moves.length=_;rw [b.rs,n]
 ·rw [n];have:=g.m;omega
 ·show v.r.Phases.length=_;rw [b.rs]
 ·rw [List.getElem?_map,Option.map_eq_some_iff]at o;obtain⟨x,d,rfl⟩:=o;change (r.Moves.map (mvN r l))[k]? =some x at d;rw [List.getElem?_map,Option.map_eq_some_iff]at d;obtain⟨m,hm,rfl⟩:=d;have D:=qS hm;obtain⟨f1,f2,-⟩:=mv_ok h.c D;obtain⟨q,y,u,A,E⟩:=aZa (mvC r) 0 k m.When (by unfold mvC;rw [List.getElem?_map,hm];rfl);rw [Nat.zero_add]at u;have B:q<cNs (mvC r):=by have:=(gS.1 A).1;rwa [nG]at this
  have F:(uX r l)[q]? =some (itm (MkR r l 0) (rlP r) y):=by
   unfold uX;rw [List.getElem?_append_left (by rw [List.length_map,nG];exact B),List.getElem?_map,A];rfl
  obtain⟨w,G,H⟩:=C.now (v:=wN v (f t) v.phase ns) F B;obtain⟨_,_,I⟩:=ph_at g.p g.pd f1;obtain⟨J,K,-⟩:=ph_at g.p g.pd f2;refine⟨m,(q:Int),w,?_,?_,yB G,?_,?_,K,λi s L=>?_⟩
  ·show v.r.Moves[k]? =_;rw [b.rs];exact hm
  ·show at' v.moves (k:Int)=_;rw [b.moves,kU];exact u
  ·rw [H];show den _ (mkN (MkR r l 0) y.c) t=den _ (mkN (MkR r l 0) m.When) t;rw [E]
  ·show Fac v.r.Phases m.To=_;rw [b.rs];exact J
  ·refine I i s ?_;have e:v.r.Phases[i]? =some s:=L;rwa [b.rs]at e
 ·rw [<-aNi];exact(aNn (uI h) j.len t).po
theorem next_6 (h:GB r l) (o:FrI l f) (b:EvI r l f t v) (p:t<=1000000000): ∃e,Fbr v (f t)=some e/\EvI r l f (t+1) e/\e.phase=(EnW f (fJ r l)).ps t/\e.told=f t/\
  ∀(j:Nat) y,r.Rules[j]? =some y-> ∃k x,at' e.rules (j:Int)=some k/\at' e.nodes k=some x/\at' ((EnW f (fJ r l)).rl t) (j:Int)=some x.now:=by
 have D:=bEy h;have ll:(uX r l).length<=24000:=by rw [aYq];have:=mv_cN h;have:=rl_cN h;omega
 obtain⟨ns,F,A⟩:=frame6_ok (E:=EnW f (fJ r l)) (told:=f t) D b.nd b.first (by rw [aYq];omega) (by omega) (itms_rng h o) b.frames p
  (λn ns it x s _ d _ _=>look_M h o b p s d)
  (λn ns it x s u d _ w=>look_R h o b p s u d w)
  (λns u=>moved_6 h o b u)
 refine⟨_,F,⟨b.rs,b.names,b.dens,rfl,rfl,A,b.first,b.moves,b.rules⟩,rfl,rfl,λj y B=>?_⟩;obtain⟨q,z,G,H,I,J⟩:=aUf (r:=r) (l:=l) r.Rules 0 (cNs (mvC r)) j y B;have K:(uX r l)[cNs (mvC r)+q]? =some z:=by
  have c:((bZ 0 (mvC r)).map (itm (MkR r l 0) (rlP r))).length=cNs (mvC r):=by rw [List.length_map,nG]
  unfold uX;rw [List.getElem?_append_right (by rw [c];omega),c,Nat.add_sub_cancel_left];exact H
 obtain⟨x,L,C,-⟩:=A.nd _ z K;rw [if_neg (Nat.not_lt_zero _)]at C;refine⟨((cNs (mvC r)+q:Nat):Int),x,?_,yB L,?_⟩
 ·show at' v.rules (j:Int)=_;rw [b.rules,kU];exact G
 ·rw [aVj h o B t,C.now,I,J,Nat.zero_add];rfl
end
theorem numT_tk {m m':gU}{tr b:Int}(h:at' m.told tr=at' m'.told b)(op n:Int):aMt m tr op n=aMt m' b op n:=by
 unfold aMt Fa7;dsimp only;rw [h]
theorem pairT_tk {m m':gU}{a b a' c da db:Int}(d:at' m.told a=at' m'.told a')(e:at' m.told b=at' m'.told c)(op:Int):pairT m a b da db op=pairT m' a' c da db op:=by
 unfold pairT Fa4;dsimp only;rw [d,e]
structure aXm (r:Rules)(l1 l2:List Track)(f1 f2:Nat->List fB):Prop where
 g1:GB r l1
 g2:GB r l2
 h1:FrI l1 f1
 h2:FrI l2 f2
 tk: ∀s∈dB r,∀t,at' (f1 t) (trI l1 s)=at' (f2 t) (trI l2 s)
 dn: ∀s∈dB r,(MkR r l1 0).dn (trI l1 s)=(MkR r l2 0).dn (trI l2 s)
section
variable {r:Rules}{l1 l2:List Track}{f1 f2:Nat->List fB}
theorem aXk {b:Type}{f g:Nat->b}{n t:Nat}(h: ∀s,s<=t->f s=g s):win f n (t+1)=win g n (t+1):=win_congr λs _=>h s (by omega)
theorem aSw {a b a' e:Nat->Int}: ∀t:Nat,(∀s,s<=t->a s=a' s)->(∀s,s<=t->b s=e s)->tK a b t=tK a' e t
 |0,c,d=>by rw [tK,tK,c 0 (Nat.le_refl _),d 0 (Nat.le_refl _)]
 |t+1,c,d=>by
  rw [tK,tK,c (t+1) (Nat.le_refl _),d (t+1) (Nat.le_refl _),aSw t (λs h=>c s (by omega)) λs h=>d s (by omega)]
theorem prv_le {f g:Nat->Int}{t:Nat}(h: ∀s,s<=t->f s=g s):prv f t=prv g t:=by
 cases t with
 |zero=>rfl
 |succ t=>exact h t (by omega)
theorem aXn (H:aXm r l1 l2 f1 f2) (i:Nat) (q:Cond->Bool) (T:Nat) (A: ∀c,q c=false->(c.Kind=6-> ∀t,t<=T->pW ((EnW f1 (fJ r l1)).m t) (aBt r.Phases c.Name)=pW ((EnW f2 (fJ r l2)).m t) (aBt r.Phases c.Name))/\(c.Kind=7-> ∀t,t<=T->aEf ((EnW f1 (fJ r l1)).m t) ((MkR r l1 i).rl c.Name)=aEf ((EnW f2 (fJ r l2)).m t) ((MkR r l1 i).rl c.Name))):
  ∀(n:Nat) (c:Cond),dN c<=n->Gt c->qU q c=false->(∀s∈aZ c,s∈dB r)-> ∀t,t<=T->den (EnW f1 (fJ r l1)) (mkN (MkR r l1 i) c) t=den (EnW f2 (fJ r l2)) (mkN (MkR r l2 i) c) t
 |0,c,h,_,_,_,_,_=>by have:=uA c;omega
 |n+1,c,h,g,B,C,t,z=>by
  have p: ∀x∈c.Kids,∀s,s<=T->den (EnW f1 (fJ r l1)) (mkN (MkR r l1 i) x) s=den (EnW f2 (fJ r l2)) (mkN (MkR r l2 i) x) s:=λx b s d=>by
   obtain⟨_,E⟩:=List.getElem?_of_mem b;exact aXn H i q T A n x (by have:=(uC g.ok E).2.1;omega) (g.kid b) (aMz b B) (λs d=>C s (aIc b d)) s d
  have gk:=g.gk;have gs:=g.self;have D:=A c (aEe B);have nm: ∀s∈nm1 c,s∈dB r:=λs d=>C s (by rw [aAt,mA];exact .inl d)
  have tk: ∀s∈nm1 c,∀u,at' ((EnW f1 (fJ r l1)).m u).told (trI l1 s)=at' ((EnW f2 (fJ r l2)).m u).told (trI l2 s):=λs d u=>H.tk s (nm s d) u
  rw [jT,jT];rcases kinds gs.k1 with e|e|e|e|e|e|e|e|e|e|e|e|e|e|e<;>rw [e]<;>simp only [mkK,Int.reduceEq,if_true,if_false,or_true,true_or,or_self]
  ·rw [den,den]
  ·rw [den,den]
  ·rw [den,den];exact numT_tk (tk c.Name (by unfold nm1;simp [e]) t) _ _
  ·rw [den,den];have d1:=H.dn c.Name (nm _ (by unfold nm1;simp [e]));have d2:=H.dn c.Other (nm _ (by unfold nm1;simp [e]));show pairT _ (trI l1 c.Name) (trI l1 c.Other) ((MkR r l1 0).dn (trI l1 c.Name)) ((MkR r l1 0).dn (trI l1 c.Other)) _=pairT _ (trI l2 c.Name) (trI l2 c.Other) ((MkR r l2 0).dn (trI l2 c.Name)) ((MkR r l2 0).dn (trI l2 c.Other)) _;rw [d1,d2];exact pairT_tk (tk c.Name (by unfold nm1;simp [e]) t) (tk c.Other (by unfold nm1;simp [e]) t) _
  ·rw [den,den];have w:win ((EnW f1 (fJ r l1)).tk ((MkR r l1 i).tr c.Name)) c.Frames.toNat (t+1)=win ((EnW f2 (fJ r l2)).tk ((MkR r l2 i).tr c.Name)) c.Frames.toNat (t+1):=aXk λs _=>by
    unfold En.tk;show(at' (f1 s) (trI l1 c.Name)).getD _=(at' (f2 s) (trI l2 c.Name)).getD _;rw [H.tk c.Name (nm _ (by unfold nm1;simp [e])) s]
   show stT _ _ (win _ _ _)=stT _ _ (win _ _ _);rw [w]
  ·rw [den,den];exact D.1 e t z
  ·rw [den,den];exact D.2 e t z
  ·obtain⟨x,b⟩:=aK (gk.o (by omega));rw [b];show den _ (.not (mkN (MkR r l1 i) x)) t=den _ (.not (mkN (MkR r l2 i) x)) t;rw [den,den];show opp _=opp _;rw [p x (by rw [b];exact List.mem_cons_self) t z]
  ·rw [den,den];show List.foldl _ _ (dens _ _ t)=List.foldl _ _ (dens _ _ t);have w:List.map ((λk=>den (EnW f1 (fJ r l1)) k t)∘mkN (MkR r l1 i)) c.Kids=List.map ((λk=>den (EnW f2 (fJ r l2)) k t)∘mkN (MkR r l2 i)) c.Kids:=List.map_congr_left λx b=>p x b t z
   rw [wR,wR,List.map_map,List.map_map,w]
  ·rw [den,den];show List.foldl _ _ (dens _ _ t)=List.foldl _ _ (dens _ _ t);have w:List.map ((λk=>den (EnW f1 (fJ r l1)) k t)∘mkN (MkR r l1 i)) c.Kids=List.map ((λk=>den (EnW f2 (fJ r l2)) k t)∘mkN (MkR r l2 i)) c.Kids:=List.map_congr_left λx b=>p x b t z
   rw [wR,wR,List.map_map,List.map_map,w]
  ·obtain⟨x,b⟩:=aK (gk.o (by omega));rw [b];show den _ (.count (mkN (MkR r l1 i) x) _ _ _ _) t=den _ (.count (mkN (MkR r l2 i) x) _ _ _ _) t;rw [den,den];show aDi _ _ (win _ _ _)=aDi _ _ (win _ _ _);rw [aXk λs d=>p x (by rw [b];exact List.mem_cons_self) s (by omega)]
  ·obtain⟨x,b⟩:=aK (gk.o (by omega));rw [b];show den _ (.count (mkN (MkR r l1 i) x) _ _ _ _) t=den _ (.count (mkN (MkR r l2 i) x) _ _ _ _) t;rw [den,den];show aDi _ _ (win _ _ _)=aDi _ _ (win _ _ _);rw [aXk λs d=>p x (by rw [b];exact List.mem_cons_self) s (by omega)]
  ·obtain⟨x,b⟩:=aK (gk.o (by omega));rw [b];show den _ (.count (mkN (MkR r l1 i) x) _ _ _ _) t=den _ (.count (mkN (MkR r l2 i) x) _ _ _ _) t;rw [den,den];show aDi _ _ (win _ _ _)=aDi _ _ (win _ _ _);rw [aXk λs d=>p x (by rw [b];exact List.mem_cons_self) s (by omega)]
  ·obtain⟨x,y,b⟩:=aFa (gk.t e);rw [b];show den _ (.since (mkN (MkR r l1 i) x) (mkN (MkR r l1 i) y) _ _) t=den _ (.since (mkN (MkR r l2 i) x) (mkN (MkR r l2 i) y) _ _) t;rw [den,den];exact aSw t (λs d=>p x (by rw [b];simp) s (by omega)) λs d=>p y (by rw [b];simp) s (by omega)
  ·obtain⟨x,b⟩:=aK (gk.o (by omega));rw [b];show den _ (.rises (mkN (MkR r l1 i) x) _ _) t=den _ (.rises (mkN (MkR r l2 i) x) _ _) t;rw [den,den];show aCm _ (prv _ t)=aCm _ (prv _ t);have k:=p x (by rw [b];exact List.mem_cons_self);rw [k t z,prv_le λs d=>k s (by omega)]
end
theorem phaseT_ps {m m':gU}(h:m.possible=m'.possible)(p:Int):pW m p=pW m' p:=by
 obtain⟨a,b,_⟩:=m;obtain⟨_,d,_⟩:=m';obtain rfl:b=d:=h;rfl
theorem aPr {e:Type}{p:Int}{g g':e->fG}(b: ∀x,(g x).from_=(g' x).from_/\(g x).to=(g' x).to)(c:e->Int): ∀(l:List e) (d:List Bool),pV p (l.map λx=>(g x,c x)) d=pV p (l.map λx=>(g' x,c x)) d
 | [],_=>rfl
 |x::l,d=>by
  rw [List.map_cons,List.map_cons,pV,pV,(b x).1,(b x).2,aPr b c l d,aPr b c l]
theorem aYi {e:Type}{g g':e->fG}(h: ∀x,(g x).from_=(g' x).from_/\(g x).to=(g' x).to)(c:e->Int)(l:List e): ∀(ps:List Bool) (i:Nat) (d:List Bool),tN (l.map λx=>(g x,c x)) ps i d=tN (l.map λx=>(g' x,c x)) ps i d
 | [],_,_=>rfl
 |b::ps,i,d=>by
  rw [tN,tN,aYi h c l ps]
  congr 1
  unfold aEg;rw [aPr h c l d]
section
variable {r:Rules}{l1 l2:List Track}{f1 f2:Nat->List fB}
theorem mv_two (H:aXm r l1 l2 f1 f2){m:dH}(hm:m∈r.Moves)(t:Nat):den (EnW f1 (fJ r l1)) (mkN (MkR r l1 0) m.When) t=den (EnW f2 (fJ r l2)) (mkN (MkR r l2 0) m.When) t:=by
 obtain⟨a,b,c⟩:=bGs H.g1 hm;refine aXn H 0 pMv t (λc d=>?_) (dN m.When) m.When (Nat.le_refl _) a b c t (Nat.le_refl _);unfold pMv at d;constructor<;>(intro e;rw [e]at d;simp at d)
theorem ps_two (H:aXm r l1 l2 f1 f2): ∀t,(EnW f1 (fJ r l1)).ps t=(EnW f2 (fJ r l2)).ps t:=by
 have step: ∀t,psB (EnW f1 (fJ r l1)) (fJ r l1) t=psB (EnW f2 (fJ r l2)) (fJ r l2) t->(EnW f1 (fJ r l1)).ps t=(EnW f2 (fJ r l2)).ps t:=by
  intro t b;rw [ps_A (uI H.g1) H.h1.len (aDd H.g1 f1),ps_A (uI H.g2) H.h2.len (aDd H.g2 f2),b];show tN ((r.Moves.map (mvN r l1)).map _) _ _ _=tN ((r.Moves.map (mvN r l2)).map _) _ _ _;rw [List.map_map,List.map_map];have e:r.Moves.map ((λx:fG=>(x,den (EnW f1 (fJ r l1)) x.when t))∘mvN r l1)=r.Moves.map λm=>(mvN r l1 m,den (EnW f2 (fJ r l2)) (mkN (MkR r l2 0) m.When) t):=List.map_congr_left λm hm=>by
   show(mvN r l1 m,den _ (mkN (MkR r l1 0) m.When) t)=_;rw [mv_two H hm t]
  rw [e];exact aYi (g:=mvN r l1) (g':=mvN r l2) (λm=>⟨rfl,rfl⟩) (λm=>den (EnW f2 (fJ r l2)) (mkN (MkR r l2 0) m.When) t) r.Moves _ _ _
 intro t
 induction t with
 |zero=>exact step 0 rfl
 |succ t c=>exact step (t+1) c
theorem bDp (H:aXm r l1 l2 f1 f2): ∀(T i:Nat),∀t,t<=T-> ∀(j:Nat) y,j<i->r.Rules[j]? =some y->at' ((EnW f1 (fJ r l1)).rl t) (j:Int)=at' ((EnW f2 (fJ r l2)).rl t) (j:Int)
 |T,0,_,_,j,_,h,_=>by omega
 |T,i+1,t,d,j,y,u,k=>by
  by_cases c:j<i
  ·exact bDp H T i t d j y c k
  ·obtain rfl:j=i:=by omega
   rw [aVj H.g1 H.h1 k t,aVj H.g2 H.h2 k t];obtain⟨a,b,c⟩:=bGt H.g1 k;refine congrArg some (aXn H j (pRl r j) T (λc o=>⟨λ_ t d=>phaseT_ps (ps_two H t) _,λe t d=>?_⟩) (dN y.When) y.When (Nat.le_refl _) a b c t d);obtain⟨n,x,-,p,q,s,-⟩:=ru_at (l:=l1) ((aEi j o).2 e);rw [p];unfold aEf;show(at' ((EnW f1 (fJ r l1)).rl t) (n:Int)).getD 0=(at' ((EnW f2 (fJ r l2)).rl t) (n:Int)).getD 0;rw [bDp H T j t d n x q s]
theorem rls_two (H:aXm r l1 l2 f1 f2) (t:Nat):(EnW f1 (fJ r l1)).rl t=(EnW f2 (fJ r l2)).rl t:=by
 have b:((EnW f1 (fJ r l1)).rl t).length=r.Rules.length:=by
  show(nxt (f1 t) (runT f1 (fJ r l1) t).2).1.length=_;rw [(aAx _ _).1];exact(show(runT f1 (fJ r l1) t).2.rules.length=r.Rules.length from by
   rw [(bGc (uI H.g1) H.h1.len (aDd H.g1 f1) t).2.2,List.length_map];show(r.Rules.mapIdx _).length=_;simp)
 have d:((EnW f2 (fJ r l2)).rl t).length=r.Rules.length:=by
  show(nxt (f2 t) (runT f2 (fJ r l2) t).2).1.length=_;rw [(aAx _ _).1];exact(show(runT f2 (fJ r l2) t).2.rules.length=r.Rules.length from by
   rw [(bGc (uI H.g2) H.h2.len (aDd H.g2 f2) t).2.2,List.length_map];show(r.Rules.mapIdx _).length=_;simp)
 apply List.ext_getElem?;intro j
 by_cases c:j<r.Rules.length
 ·have q:=bDp H t r.Rules.length t (Nat.le_refl _) j _ c (gE c);rw [kU,kU]at q;exact q
 ·rw [List.getElem?_eq_none (by omega),List.getElem?_eq_none (by omega)]
theorem aVx (H:aXm r l1 l2 f1 f2): ∀n,(runT f1 (fJ r l1) n).1=(runT f2 (fJ r l2) n).1
 |0=>rfl
 |n+1=>by
  show(runT f1 (fJ r l1) n).1++[(EnW f1 (fJ r l1)).rl n]=(runT f2 (fJ r l2) n).1++[(EnW f2 (fJ r l2)).rl n];rw [aVx H n,rls_two H n]
theorem phs_two (H:aXm r l1 l2 f1 f2)(n:Nat):(runT f1 (fJ r l1) n).2.possible=(runT f2 (fJ r l2) n).2.possible:=by
 rw [aNi,aNi]
 cases n with
 |zero=>rfl
 |succ n=>exact ps_two H n
end
def tel (l:List Track)(a:Int)(k:Nat):List fB:=l.map (inT (a+(k:Int)))
theorem aVf (l:List Track)(a:Int)(k:Nat):(tel l a k).length=l.length:=by unfold tel;rw [List.length_map]
def spn (a b:Int):Nat:=(b-a+1).toNat
def cols (m:Nat)(rows:List (List Int)):List (List Int):=(List.range m).map λi=>rows.map λrow=>row.getD i 0
theorem aYf {m:Nat}{rows:List (List Int)}{i:Nat}(h:i<m):(cols m rows)[i]? =some (rows.map λrow=>row.getD i 0):=by
 unfold cols;rw [List.getElem?_map,List.getElem?_range h];rfl
theorem aAc (m:Nat)(rows:List (List Int)):(cols m rows).length=m:=by unfold cols;simp
theorem frame_ok {r:Rules}{l:List Track}(h:GB r l){a:Int}(k:Nat)(q:0<=a)(s:a+k<=4194303):
  Fdx l (a+(k:Int))=some (tel l a k)/\Fbg (runT (tel l a) (fJ r l) k).2 (tel l a k)=some (nxt (tel l a k) (runT (tel l a) (fJ r l) k).2)/\
  Fbe (nxt (tel l a k) (runT (tel l a) (fJ r l) k).2).2=some (phL (runT (tel l a) (fJ r l) (k+1)).2.possible r.Phases):=by
 have c:=uI h;have d:=aNn (f:=tel l a) c (aVf l a) k;obtain⟨j,o,_,_⟩:=aUz d (aVf l a k);refine⟨inputs_eq l _ h.t (by omega) (by omega),j,?_⟩;rw [Phase_eq o];have e: ∀n,(runT (tel l a) (fJ r l) n).2.phases=r.Phases:=by
  intro n
  induction n with
  |zero=>rfl
  |succ n p=>exact p
 have b:=e (k+1);change (nxt (tel l a k) (runT (tel l a) (fJ r l) k).2).2.phases=_ at b;rw [b];rfl
theorem aWf {r:Rules}{l:List Track}(f:Nat->List fB): ∀n,(runT f (fJ r l) n).2.rules.length=r.Rules.length
 |0=>by show(r.Rules.mapIdx _).length=_;simp
 |n+1=>by
  show(nxt (f n) (runT f (fJ r l) n).2).2.rules.length=_;rw [(aAx _ _).2,aWf f n]
def evV (r:Rules)(l:List Track)(a b:Int):List (List Int):=cols r.Rules.length (runT (tel l a) (fJ r l) (spn a b)).1
def phsT (r:Rules)(l:List Track)(a:Int)(k:Nat):List Str:=phL (runT (tel l a) (fJ r l) (k+1)).2.possible r.Phases
def evP (r:Rules)(l:List Track)(a b:Int):List (List Str):=(List.range (spn a b)).map (phsT r l a)
theorem bDe (s:Series) (t:Int) (d:Asc s.Samples) (w:s.Samples.length<=20000):
  Fg2 s t (0,(s.Samples.length:Int))=some (kLe s.Samples t:Int):=by
 unfold Fg2 fF;refine bFr (kLe s.Samples t) s.Samples.length _ ?_ ?_ s.Samples.length 0 s.Samples.length FU (by omega) (Nat.zero_le _) (aCt _ _) (Nat.le_refl _) (jP (by omega))
 ·intro k lo hi e j _ _;obtain⟨_,b⟩:=mid_ok e j;have o:IntKind.i64.wrap ((lo:Int)+(hi:Int))=((lo+hi:Nat):Int):=by rw [Go.OB.wrap_i64 (by omega) (by omega)];omega
  have p:aMu .i64 ((lo+hi:Nat):Int) 2=some (((lo+hi)/2:Nat):Int):=by
   unfold aMu;rw [if_neg (by omega),Int.tdiv_eq_ediv_of_nonneg (by omega),Go.OB.wrap_i64 (by omega) (by omega)]
   congr 1
  have u:IntKind.i64.wrap ((((lo+hi)/2:Nat):Int)+1)=(((lo+hi)/2+1:Nat):Int):=fC (n:=20000) (by omega) (by omega);simp only [zD,dT (show(lo:Int)<(hi:Int)by omega),zL,o,p,zA,kU,b,u,xC];have q:=aJw d t b
  by_cases c:(lo+hi)/2<kLe s.Samples t
  ·rw [if_pos c,if_pos (q.2 c)]
  ·rw [if_neg c,if_neg (λh=>c (q.1 h))]
 ·intro k;simp only [zD,qD (show¬((kLe s.Samples t:Int)<(kLe s.Samples t:Int))by omega),zK]
theorem rHeld_eq (s:Series)(t g:Int)(c:Asc s.Samples)(d:s.Samples.length<=20000):Ffz s t g=some (hld s t g):=by
 unfold Ffz hld;have h:=aCt (λx:fD=>decide (x.At<=t)) s.Samples;change kLe s.Samples t<=_ at h;simp only [zD,bDe s t c d,zA];generalize kLe s.Samples t=n at *
 cases n with
 |zero=>rfl
 |succ n=>
  obtain⟨x,j⟩: ∃x,s.Samples[n]? =some x:=⟨_,gE (by omega)⟩;have e:IntKind.i64.wrap (((n+1:Nat):Int)-1)=(n:Int):=by rw [Go.OB.wrap_i64 (by omega) (by omega)];omega
  simp only [qD (show¬(((n+1:Nat):Int)=0)by omega),zK,e,kU,j,zA,Fgo,zD];generalize decide (3<=x.Mark)=a;generalize decide (g<IntKind.i64.wrap (t-x.At))=b
  cases a<;>cases b<;>rfl
theorem bDh (l:List Track) (n:Int) (h:TK l) (c:0<=n) (d:n<=4194303):Fcb l n=some (l.map (inT n)):=by
 obtain⟨_,e⟩:=aQx h;unfold Fcb Fi8;simp only [zD];rw [show(([]:List fB),(0:Int))=(λ(i:Nat)=>((l.take i).map (inT n),(i:Int))) 0 by simp];rw [xB (λ(i:Nat)=>((l.take i).map (inT n),(i:Int))) l (some (l.map (inT n))) (by omega) ?_ ?_];rfl;intro k i x b hi;obtain⟨g1,g2,g3⟩:=e i x b;simp only [bFb c d];rw [yA hi,zL,yB b,zA,zA,rHeld_eq _ _ _ g1 g2,zA];rw [apT _ _ (by simp;omega),zA,fC hi (by omega),bY b,List.map_append];rfl;intro k;rw [yC,zK,List.take_length]
theorem tel_I {l:List Track} (h:TK l) (a:Int):FrI l (tel l a):=by
 refine⟨λt=>aVf l a t,λt _ b=>?_⟩;unfold tel at b;obtain⟨y,d,rfl⟩:=List.mem_map.1 b;obtain⟨i,hi⟩:=List.getElem?_of_mem d;have e:=((aNk y.Series).1 (h.s i y hi)).2.2;show _<=(hld y.Series _ y.Long).1.N/\(hld y.Series _ y.Long).1.N<=_;unfold hld;split;exact⟨by decide,by decide⟩;rename_i n _;split;rename_i z j;split;exact⟨by decide,by decide⟩;have q:=e n z j;unfold aRm at q;split at q;exact absurd q (by decide);rename_i c;simp only [Bool.or_eq_true,Bool.not_eq_true',Bool.and_eq_false_iff,decide_eq_false_iff_not]at c;show _<=z.N/\z.N<=_;omega;exact⟨by decide,by decide⟩
theorem mk_cols (m:Nat)(h:m<=2000000):make' 24 (m:Int) ([]:List Int)=some (cols m []):=by
 unfold make';rw [if_pos ⟨by omega,by omega,by omega⟩,Int.toNat_natCast];unfold cols;congr 1;apply List.ext_getElem?;intro i;rw [List.getElem?_replicate,List.getElem?_map];by_cases c:i<m;rw [if_pos c,List.getElem?_range c];rfl;rw [if_neg c,List.getElem?_eq_none (by simp;omega)];rfl
section
variable {r:Rules}{l:List Track}
theorem truths_L2 (h:GB r l) {v:gG} (rows:List (List Int)) (ts:List Int) (q:rows.length<=100000) (d:ts.length=r.Rules.length)
  (e: ∀(j:Nat) y,r.Rules[j]? =some y-> ∃k x,at' v.rules (j:Int)=some k/\at' v.nodes k=some x/\at' ts (j:Int)=some x.now):
  Fey r v (0,cols r.Rules.length rows)=some (v.r.Phases,v.r.Moves,v.r.Rules,v.names,v.dens,v.told,v.frames,v.phase,v.nodes,v.first,v.moves,v.rules,cols r.Rules.length (rows++[ts])):=by
 have hm:=h.g.l;unfold Fey;have n: ∀i,i<r.Rules.length->(cols r.Rules.length (rows++[ts])).take i++(cols r.Rules.length rows).drop i=(cols r.Rules.length (rows++[ts])).take i++(rows.map λrow=>row.getD i 0)::(cols r.Rules.length rows).drop (i+1):=λi hi=>by
  rw [List.drop_eq_getElem_cons (by rw [aAc];exact hi)];have:=aYf (rows:=rows) hi;rw [gE (by rw [aAc];exact hi)]at this;rw [oI this]
 refine(xB (λ(i:Nat)=>((i:Int),(cols r.Rules.length (rows++[ts])).take i++(cols r.Rules.length rows).drop i)) r.Rules (some (v.r.Phases,v.r.Moves,v.r.Rules,v.names,v.dens,v.told,v.frames,v.phase,v.nodes,v.first,v.moves,v.rules,cols r.Rules.length (rows++[ts]))) (by omega) ?_ ?_)
 ·intro k i y o hi;obtain⟨_,x,v1,v2,v3⟩:=e i y o;have b:((cols r.Rules.length (rows++[ts])).take i).length=i:=by rw [List.length_take,aAc];omega
  rw [kU]at v3;have c:ts.getD i 0=x.now:=by rw [List.getD_eq_getElem?_getD,v3];rfl
  have p:(cols r.Rules.length (rows++[ts]))[i]? =some ((rows.map λrow=>row.getD i 0)++[x.now]):=by
   rw [aYf (by omega),List.map_append,List.map_singleton,c]
  simp only [zD];rw [yA hi,zL,n i (by omega),aFb _ _ _ i b];simp only [zA];rw [v1,zA,v2,zA,ap8 (by rw [List.length_map];omega),zA,aDs _ _ _ _ i b,zA,fC hi (by omega),bY p,List.append_assoc];rfl
 ·intro k;simp only [zD];rw [yC,zK,List.take_of_length_le (by rw [aAc];exact Nat.le_refl _),List.drop_eq_nil_of_le (by rw [aAc];exact Nat.le_refl _),List.append_nil]
theorem aYr (h:GB r l){a:Int}(k:Nat)(b:0<=a)(c:a+k<=4194303):Fcb l (a+(k:Int))=some (tel l a k):=bDh l _ h.t (by omega) (by omega)
theorem truths_L1 (h:GB r l){a b:Int}(M:aMh a b=0):Ff8 r l b (a,(ev0 r l).r.Phases,(ev0 r l).r.Moves,(ev0 r l).r.Rules,(ev0 r l).names,(ev0 r l).dens,(ev0 r l).told,(ev0 r l).frames,(ev0 r l).phase,(ev0 r l).nodes,(ev0 r l).first,(ev0 r l).moves,(ev0 r l).rules,cols r.Rules.length [])=some (evV r l a b):=by
 obtain⟨s1,_,_,_⟩:=span_ok M;have N:=tel_I h.t a;have hn:spn a b=(b-a+1).toNat:=rfl;unfold Ff8;have q:=bM (body:=λc (s:Int×(List Str)×(List dH)×(List Rule)×(List Str)×(List Int)×(List fB)×Int×(List Bool)×(List gJ)×Int×(List Int)×(List Int)×(List (List Int)))=>
   gI (decide (s.1<=b)) λd=>
   gQ d
   (gB (gB (Fcb l s.1) λe=>
   gB (Fbr (gG.mk (Rules.mk s.2.1 s.2.2.1 s.2.2.2.1) s.2.2.2.2.1 s.2.2.2.2.2.1 s.2.2.2.2.2.2.1 s.2.2.2.2.2.2.2.1 s.2.2.2.2.2.2.2.2.1 s.2.2.2.2.2.2.2.2.2.1 s.2.2.2.2.2.2.2.2.2.2.1 s.2.2.2.2.2.2.2.2.2.2.2.1 s.2.2.2.2.2.2.2.2.2.2.2.2.1) e) λj=>
   Fey r j (0,s.2.2.2.2.2.2.2.2.2.2.2.2.2)) λ⟨k,n,o,p,w,x,y,A,B,C,D,E,F⟩=>
   gI (IntKind.i64.wrap (s.1+1)) λG=>
   c (G,k,n,o,p,w,x,y,A,B,C,D,E,F))
   (some s.2.2.2.2.2.2.2.2.2.2.2.2.2))
  (λ(i:Nat) (s:gG×List (List Int))=>(a+(i:Int),s.1.r.Phases,s.1.r.Moves,s.1.r.Rules,s.1.names,s.1.dens,s.1.told,s.1.frames,s.1.phase,s.1.nodes,s.1.first,s.1.moves,s.1.rules,s.2)) (List.replicate (spn a b) ())
  (λi s=>EvI r l (tel l a) i s.1/\s.2=cols r.Rules.length (runT (tel l a) (fJ r l) i).1) (λz=>z=evV r l a b) (by rw [List.length_replicate];omega)
  (λO i s _ P _ H=>by
   have Q:=aUt P;obtain⟨R,i2⟩:=H;obtain⟨I,S,T,_,_,X⟩:=next_6 h N R (by omega);have J:((EnW (tel l a) (fJ r l)).rl i).length=r.Rules.length:=by
    show(nxt (tel l a i) (runT (tel l a) (fJ r l) i).2).1.length=_;rw [(aAx _ _).1,aWf]
   have t2:=truths_L2 h (v:=I) (runT (tel l a) (fJ r l) i).1 ((EnW (tel l a) (fJ r l)).rl i) (by rw [aJr];omega) J X;refine⟨(I,cols r.Rules.length (runT (tel l a) (fJ r l) (i+1)).1),⟨T,rfl⟩,?_⟩;simp only [zD];rw [dT (by omega:a+(i:Int)<=b),zL,aYr h i s1 (by omega),zA];have K:Fbr (gG.mk (Rules.mk s.1.r.Phases s.1.r.Moves s.1.r.Rules) s.1.names s.1.dens s.1.told s.1.frames s.1.phase s.1.nodes s.1.first s.1.moves s.1.rules) (tel l a i)=some I:=S;rw [K,zA,i2,t2,zA,wrap_i64 (by omega) (by omega),show a+(i:Int)+1=a+((i+1:Nat):Int)by omega];rfl)
  (λO s H=>by
   rw [List.length_replicate]at H⊢;simp only [zD];rw [qD (by omega: ¬a+((spn a b:Nat):Int)<=b),zK];exact⟨_,rfl,H.2⟩) (ev0 r l,cols r.Rules.length []) ⟨evI_zero h _,rfl⟩
 obtain⟨z,L,Y⟩:=q;rw [Y]at L;rw [show(a,(ev0 r l).r.Phases,(ev0 r l).r.Moves,(ev0 r l).r.Rules,(ev0 r l).names,(ev0 r l).dens,(ev0 r l).told,(ev0 r l).frames,(ev0 r l).phase,(ev0 r l).nodes,(ev0 r l).first,(ev0 r l).moves,(ev0 r l).rules,cols r.Rules.length ([]:List (List Int)))=(a+((0:Nat):Int),(ev0 r l).r.Phases,(ev0 r l).r.Moves,(ev0 r l).r.Rules,(ev0 r l).names,(ev0 r l).dens,(ev0 r l).told,(ev0 r l).frames,(ev0 r l).phase,(ev0 r l).nodes,(ev0 r l).first,(ev0 r l).moves,(ev0 r l).rules,cols r.Rules.length ([]:List (List Int)))by simp];exact L
theorem Truths_eq (h:GB r l){a b:Int}(c:aMh a b=0):Feu r l a b=some (evV r l a b):=by
 unfold Feu;simp only [zD];rw [empty_eq h,zA,mk_cols _ (by have:=h.g.l;omega),zA,truths_L1 h c,zA]
end
inductive aKx (a i:Int) (l:List Int):Nat->List fM->Prop
 |done {t:Nat} (h:l.length<=t):aKx a i l t []
 |skip {t:Nat}{es:List fM} (h:t<l.length) (h2:l[t]? ≠some 2) (k:aKx a i l (t+1) es):aKx a i l t es
 |run {t e:Nat}{es:List fM} (h:t<=e) (h2: ∀s,t<=s->s<=e->l[s]? =some 2) (h3:l[e+1]? ≠some 2) (k:aKx a i l (e+1) es):
   aKx a i l t (fM.mk i (a+(t:Int)) (a+(e:Int)) (decide (0<t/\l[t-1]? =some 1)) (decide (l[e+1]? =some 1))::es)
theorem run_end (l:List Int): ∀(d t:Nat),l.length-t<=d->l[t]? =some 2-> ∃e,t<=e/\(∀s,t<=s->s<=e->l[s]? =some 2)/\l[e+1]? ≠some 2
 |0,t,hd,h=>by have:=(gS.1 h).1;omega
 |d+1,t,hd,h=>by
  have o:=(gS.1 h).1
  by_cases c:l[t+1]? =some 2
  ·obtain⟨e,_,j,k⟩:=run_end l d (t+1) (by omega) c;refine⟨e,by omega,λs n b=>?_,k⟩
   by_cases q:s=t
   ·rw [q];exact h
   ·exact j s (by omega) b
  ·refine⟨t,Nat.le_refl _,λs n b=>?_,c⟩;have:s=t:=by omega
   rw [this];exact h
theorem aVo (a i:Int) (l:List Int): ∀(d t:Nat),l.length-t<=d-> ∃b,aKx a i l t b/\b.length<=l.length-t
 |0,t,hd=>⟨[],.done (by omega),Nat.zero_le _⟩
 |d+1,t,hd=>by
  by_cases c:l.length<=t
  ·exact⟨[],.done c,Nat.zero_le _⟩
  by_cases q:l[t]? =some 2
  ·obtain⟨e,j,k,n⟩:=run_end l l.length t (by omega) q;have p:=(gS.1 (k e j (Nat.le_refl _))).1;obtain⟨b,h,o⟩:=aVo a i l d (e+1) (by omega);exact⟨_,.run j k n h,by rw [List.length_cons];omega⟩
  ·obtain⟨b,h,o⟩:=aVo a i l d (t+1) (by omega);exact⟨b,.skip (by omega) q h,by omega⟩
theorem ap32x {b:Type}(l:List b)(x:b)(h:l.length<=100000000):app' 32 l [x]=some (l++[x]):=by
 unfold app';rw [if_pos];constructor;simp [maxLen];omega;simp;omega
theorem at_one {l:List Int}{s:Nat}{x:Int}(h:l[s]? =some x):decide (x=1)=decide (l[s]? =some 1):=by rw [h];simp
theorem at_no {l:List Int}{s:Nat}(h:l.length<=s):false=decide (l[s]? =some 1):=by rw [List.getElem?_eq_none h];simp
def aRt (p0:List (List Int))(p1 c:Int):((List fM)×Int->Option (List fM))->(List fM)×Int->Option (List fM):=λs ⟨e,b⟩=>
 gB (at' p0 c) λu=>
 gI (u.length:Int) λw=>
 gI (decide (b<w)) λx=>
 gQ x
 (gB (gB (at' p0 c) λy=>
 gB (at' y b) λz=>
 gI (decide (z≠2)) λA=>
 gQ A
 (some e)
 (gB (gB (gI (decide (b=0)) λB=>
 gQ B
 (some true)
 (gB (at' p0 c) λC=>
 gI (IntKind.i64.wrap (b-1)) λD=>
 gB (at' C D) λE=>
 gI (decide (E≠2)) λF=>
 some F)) λG=>
 gQ G
 (gI (IntKind.i64.wrap (p1+b)) λh=>
 gI (decide (0<b)) λH=>
 gQ H
 (gB (at' p0 c) λI=>
 gI (IntKind.i64.wrap (b-1)) λJ=>
 gB (at' I J) λK=>
 gI (decide (K=1)) λq=>
 gI ([fM.mk c h 0 q false]:List fM) λ_=>
 gB (app' 32 e ([fM.mk c h 0 q false]:List fM)) λL=>
 some L)
 (gI ([fM.mk c h 0 false false]:List fM) λ_=>
 gB (app' 32 e ([fM.mk c h 0 false false]:List fM)) λM=>
 some M))
 (some e)) λp=>
 gI (p.length:Int) λN=>
 gI (IntKind.i64.wrap (N-1)) λd=>
 gI (IntKind.i64.wrap (p1+b)) λO=>
 gB (at' p d) λj=>
 gB (set' p d (fM.mk j.Rule j.From O j.Begins j.Ends)) λk=>
 gI (IntKind.i64.wrap (b+1)) λP=>
 gB (at' p0 c) λQ=>
 gI (Q.length:Int) λR=>
 gI (decide (P<R)) λS=>
 gQ S
 (gB (at' p0 c) λT=>
 gI (IntKind.i64.wrap (b+1)) λX=>
 gB (at' T X) λY=>
 gI (decide (Y=1)) λaa=>
 gB (at' k d) λn=>
 gB (set' k d (fM.mk n.Rule n.From n.To n.Begins aa)) λab=>
 some ab)
 (gB (at' k d) λo=>
 gB (set' k d (fM.mk o.Rule o.From o.To o.Begins false)) λac=>
 some ac))) λad=>
 gI (IntKind.i64.wrap (b+1)) λae=>
 s (ad,ae))
 (some e)
def aWl (D:List (List Int))(E n j:Int)(k:List fM):Option (List fM):=
 gI (k.length:Int) λo=>
 gI (IntKind.i64.wrap (o-1)) λb=>
 gI (IntKind.i64.wrap (E+j)) λp=>
 gB (at' k b) λc=>
 gB (set' k b (fM.mk c.Rule c.From p c.Begins c.Ends)) λd=>
 gI (IntKind.i64.wrap (j+1)) λq=>
 gB (at' D n) λs=>
 gI (s.length:Int) λu=>
 gI (decide (q<u)) λw=>
 gQ w
 (gB (at' D n) λx=>
 gI (IntKind.i64.wrap (j+1)) λy=>
 gB (at' x y) λz=>
 gI (decide (z=1)) λA=>
 gB (at' d b) λe=>
 gB (set' d b (fM.mk e.Rule e.From e.To e.Begins A)) λB=>
 some B)
 (gB (at' d b) λh=>
 gB (set' d b (fM.mk h.Rule h.From h.To h.Begins false)) λC=>
 some C)
section
variable {a:Int}{ls:List (List Int)}{l:List Int}{i:Nat}
theorem aUb (k:0<=a/\a<=4194304) (o:l.length<=1000000) (e:ls[i]? =some l) {t:Nat} (h:t<l.length) (b:List fM) (x:fM) (p:b.length<=100000000):
  aWl ls a (i:Int) (t:Int) (b++[x])=some (b++[fM.mk x.Rule x.From (a+(t:Int)) x.Begins (decide (l[t+1]? =some 1))]):=by
 have j:IntKind.i64.wrap (((b++[x]).length:Int)-1)=(b.length:Int):=by
  rw [List.length_append,List.length_singleton,wrap_i64 (by omega) (by omega)];omega
 have s: ∀y z:fM,set' (b++[y]) (b.length:Int) z=some (b++[z]):=λy z=>aDs b y z [] b.length rfl
 have g: ∀y:fM,at' (b++[y]) (b.length:Int)=some y:=λy=>aFb b y [] b.length rfl
 unfold aWl;simp only [zD];rw [j,g,zA,s,zA,fC h (by omega),wrap_i64 (n:=a+(t:Int)) (by omega) (by omega),yB e,zA,g,zA]
 by_cases c:t+1<l.length
 ·obtain⟨y,d⟩: ∃y,l[t+1]? =some y:=⟨_,gE c⟩;rw [dT (by omega),zL,yB d,zA,zA,s,zA,at_one d]
 ·rw [qD (by omega),zK,zA,s,zA,<-at_no (by omega)]
theorem aZe (k:0<=a/\a<=4194304)(o:l.length<=1000000)(c:ls[i]? =some l){e:Nat}(m0:Nat)(j b:List fM)(z:b.length<90000000)(p: ∀(y:fM) (m:Nat),m0<m->eX (aRt ls a (i:Int)) m (b++[y],((e+1:Nat):Int))=some (b++[y]++j)):
  ∀(d t:Nat) (x:fM) (m:Nat),t+d=e->m0+d<m->(∀s,t<=s->s<=e->l[s]? =some 2)->eX (aRt ls a (i:Int)) m (b++[fM.mk x.Rule x.From (a+(t:Int)) x.Begins (decide (l[t+1]? =some 1))],((t+1:Nat):Int))=some (b++fM.mk x.Rule x.From (a+(e:Int)) x.Begins (decide (l[e+1]? =some 1))::j)
 |0,t,x,m,hd,hm,h=>by
  have:t=e:=by omega
  subst this;rw [p _ m (by omega),List.append_assoc,List.singleton_append]
 |d+1,t,x,m,hd,hm,h=>by
  obtain⟨m,rfl⟩: ∃n,m=n+1:=⟨m-1,by omega⟩;have q:=h (t+1) (by omega) (by omega);have A:=h t (by omega) (by omega);have u:=(gS.1 q).1;have i2:=aZe k o c m0 j b z p d (t+1) x m (by omega) (by omega) λs _ B=>h s (by omega) B
  have tk:=aUb k o c u b (fM.mk x.Rule x.From (a+(t:Int)) x.Begins (decide (l[t+1]? =some 1))) (by omega);have w:IntKind.i64.wrap (((t+1:Nat):Int)-1)=(t:Int):=by rw [wrap_i64 (by omega) (by omega)];omega
  unfold aWl at tk;rw [eX];generalize eX (aRt ls a (i:Int)) m=K at i2⊢;unfold aRt;dsimp only;rw [yB c,zA,zD,zD,dT (by omega),zL,zA,yB q,zA,zD,qD (by decide),zK,zD,qD (by omega),zK,zA,zD,w,yB A,zA,zD,zA,qD (by decide),zK,zA];rw [yB c]at tk;rw [tk,zA];dsimp only;rw [zD,fC u (by omega)];exact i2
theorem evR_ok (C:0<=a/\a<=4194304)(D:l.length<=1000000)(c:ls[i]? =some l){t:Nat}{o:List fM}(k:aKx a (i:Int) l t o): ∀(b:List fM) (m:Nat),l.length-t<m->b.length+l.length<=80000000+t->t<=l.length->(0<t->l[t-1]? =some 2->l[t]? ≠some 2)->eX (aRt ls a (i:Int)) m (b,(t:Int))=some (b++o):=by
 induction k with
 | @done t h=>
  intro b m hm _ E _;obtain⟨m,rfl⟩: ∃n,m=n+1:=⟨m-1,by omega⟩;rw [eX];unfold aRt;dsimp only;rw [yB c,zA,zD,zD,qD (by omega),zK,List.append_nil]
 | @skip t o h j _ s=>
  intro b m hm F E _;obtain⟨m,rfl⟩: ∃n,m=n+1:=⟨m-1,by omega⟩;obtain⟨x,d⟩: ∃x,l[t]? =some x:=⟨_,gE h⟩;have G:x≠2:=λq=>j (by rw [d,q])
  have i2:=s b m (by omega) (by omega) (by omega) (λ_ q=>absurd q j);rw [eX];generalize eX (aRt ls a (i:Int)) m=K at i2⊢;unfold aRt;dsimp only;rw [yB c,zA,zD,zD,dT (by omega),zL,zA,yB d,zA,zD,dT G,zL,zA,zD,fC h (by omega)];exact i2
 | @run t e o h j H _ s=>
  intro b m hm F E u;obtain⟨m,rfl⟩: ∃n,m=n+1:=⟨m-1,by omega⟩;have d:=j t (Nat.le_refl _) h;have I:=j e h (Nat.le_refl _);have A:=(gS.1 d).1;have L:=(gS.1 I).1;have i2:=aZe C D c (l.length-(e+1)) o b (by omega) (λy m' B=>s (b++[y]) m' B (by rw [List.length_append,List.length_singleton];omega) (by omega) (λ_ _=>H)) (e-t) t (fM.mk (i:Int) (a+(t:Int)) 0 (decide (0<t/\l[t-1]? =some 1)) false) m (by omega) (by omega) j;have tk:=aUb C D c A b (fM.mk (i:Int) (a+(t:Int)) 0 (decide (0<t/\l[t-1]? =some 1)) false) (by omega);unfold aWl at tk;rw [eX];generalize eX (aRt ls a (i:Int)) m=K at i2⊢;unfold aRt;dsimp only;rw [yB c]at tk
  cases t with
  |zero=>
   have q:decide (0<0/\l[0-1]? =some 1)=false:=qD (λq=>absurd q.1 (Nat.lt_irrefl 0));rw [q]at tk i2⊢;rw [wrap_i64 (n:=a+((0:Nat):Int)) (by omega) (by omega)]at tk;rw [yB c,zA,zD,zD,dT (by omega),zL,zA,yB d,zA,zD,qD (by decide),zK,zD,dT (by omega),zL,zA,zL,zD,zD,qD (by omega),zK,zD,wrap_i64 (n:=a+((0:Nat):Int)) (by omega) (by omega),ap32x _ _ (by omega),zA,zA,tk,zA];dsimp only;rw [zD,fC A (by omega)];exact i2
  |succ t=>
   obtain⟨y,p⟩: ∃y,l[t]? =some y:=⟨_,gE (by omega)⟩;have J:y≠2:=λq=>u (by omega) (by show l[t]? =_;rw [p,q]) d
   have w:IntKind.i64.wrap (((t+1:Nat):Int)-1)=(t:Int):=by rw [wrap_i64 (by omega) (by omega)];omega
   have q:decide (0<t+1/\l[t+1-1]? =some 1)=decide (y=1):=by
    rw [at_one p];exact decide_eq_decide.2 ⟨λz=>z.2,λz=>⟨by omega,z⟩⟩
   rw [q]at tk i2⊢;rw [wrap_i64 (n:=a+((t+1:Nat):Int)) (by omega) (by omega)]at tk;rw [yB c,zA,zD,zD,dT (by omega),zL,zA,yB d,zA,zD,qD (by decide),zK,zD,qD (by omega),zK,zA,zD,w,yB p,zA,zD,zA,dT J,zL,zD,zD,dT (by omega),zL,zA,zD,yB p,zA,zD,zD,wrap_i64 (n:=a+((t+1:Nat):Int)) (by omega) (by omega),ap32x _ _ (by omega),zA,zA,tk,zA];dsimp only;rw [zD,fC A (by omega)];exact i2
end
end Go.Lf
