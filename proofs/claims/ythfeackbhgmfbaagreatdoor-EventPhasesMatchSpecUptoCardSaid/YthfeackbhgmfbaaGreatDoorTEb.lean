/- Laws that the claim stands on; no condition beyond those stated. -/
import Derived.Test.YthfeackbhgmfbaaGreatDoorTEa
namespace Go.Lf
open Go.OB
theorem aRz (s:Str): ∀(l:List Str) (i:Nat),s∈l->dZ (λi x=>if decide (x=s)=true then some (some (i:Int))else none) (some (-1)) l i=some (pX (nN l i) s 0)
 | [],_,h=>by simp at h
 |x::l,i,h=>by
  rw [dZ,nN,aDe]
  by_cases c:x=s
  ·rw [if_pos c];simp [c]
  ·rw [if_neg c,<-aRz s l (i+1) ((List.mem_cons.1 h).resolve_left (Ne.symm c))];simp [c]
theorem aNx (l:List Str) (s:Str) (b:l.length<=9223372036854775807) (h:s∈l):Fac l s=some (pX (nN l 0) s 0):=by
 rw [<-aRz s l 0 h];unfold Fac;simp only [xK];unfold Ffp;refine xA l _ _ b ?_ ?_;intro k i x c hi;simp only [zG];rw [yR hi,zT,yM c,zC,fQ hi b];cases decide (x=s)<;>rfl;intro k;simp only [zG];rw [yS];rfl
theorem idx_zip (l:List Str) (s:Str) (b:l.length<=9223372036854775807) (h:s∈l):aBi l s=pX (nN l 0) s 0:=by
 have e:Fai l s=some (pX (nN l 0) s 0):=by
  rw [<-aRz s l 0 h];unfold Fai;simp only [zG,xK];unfold Fer;refine xA l _ _ b ?_ ?_
  ·intro c i x d hi;simp only [zG];rw [yR hi,zT,yM d,zC,fQ hi b,decide_eq_decide.2 (eq_comm:s=x↔x=s)]
   cases decide (x=s)<;>rfl
  ·intro c;simp only [zG];rw [yS];rfl
 unfold aBi;rw [e];rfl
theorem fo_map {b:Type}(g:b->Str)(s:Str): ∀(l:List b) (i:Nat),dZ (λi x=>if decide (g x=s)=true then some (some (i:Int))else none) (some (-1)) l i=dZ (λi x=>if decide (x=s)=true then some (some (i:Int))else none) (some (-1)) (l.map g) i
 | [],_=>rfl
 |x::l,i=>by
  rw [List.map_cons,dZ,dZ,fo_map g s l (i+1)]
def ruI (r:Rules)(s:Str):Int:=pX (nN (r.Rules.map Rule.Name) 0) s 0
theorem aZj (r:Rules) (s:Str) (b:r.Rules.length<=9223372036854775807) (h:s∈r.Rules.map Rule.Name):Fak r s=some (ruI r s):=by
 unfold ruI;rw [<-aRz s _ 0 h,<-fo_map];unfold Fak;simp only [xK];unfold Fgn;refine xA r.Rules _ _ b ?_ ?_;intro k i x c hi;simp only [zG];rw [yR hi,zT,yM c,zC,fQ hi b];cases decide (x.Name=s)<;>rfl;intro k;simp only [zG];rw [yS];rfl
theorem aVg (s:Str): ∀(l:List Str) (i k:Nat),s∈l.take k->pX (nN (l.take k) i) s 0=pX (nN l i) s 0
 | [],i,k,h=>by simp at h
 |x::l,i,0,h=>by simp at h
 |x::l,i,k+1,h=>by
  rw [List.take_succ_cons,nN,nN,aDe,aDe]
  by_cases c:x=s
  ·rw [if_pos c,if_pos c]
  ·rw [if_neg c,if_neg c];exact aVg s l (i+1) k ((List.mem_cons.1 h).resolve_left (Ne.symm c))
theorem ru_at {r:Rules}{l:List gZ}{i:Nat}{s:Str}(h:s∈(r.Rules.take i).map Rule.Name): ∃(j:Nat) (x:Rule),ruI r s=(j:Int)/\(MkR r l i).rl s=(j:Int)/\j<i/\r.Rules[j]? =some x/\x.Name=s:=by
 obtain⟨j,b,d⟩:=aBq s _ 0 h;have e:(r.Rules.map Rule.Name).take i=(r.Rules.take i).map Rule.Name:=by rw [List.map_take]
 have k:ruI r s=pX (nN ((r.Rules.take i).map Rule.Name) 0) s 0:=by
  unfold ruI;rw [<-e];exact(aVg s _ 0 i (by rw [e];exact h)).symm
 rw [Nat.zero_add]at b;rw [List.getElem?_map,Option.map_eq_some_iff]at d;obtain⟨x,c,n⟩:=d;have o:=(gS.1 c).1;rw [List.length_take]at o;refine⟨j,x,by rw [k];exact b,b,by omega,?_,n⟩;rw [List.getElem?_take_of_lt (by omega)]at c;exact c
theorem aUs {c:Cond}(g:Gt c):aOa c:=by
 have gk:=g.gk;have b:=g.self;refine⟨b.k1,λh=>List.eq_nil_of_length_eq_zero (gk.z h),λh=>jG (gk.o h),λh=>aGa (gk.t h),λh=>⟨gk.g h,g.kids⟩,λh=>⟨gk.fr h,b.fr.2⟩,b.n,gk.st⟩
theorem ph_at {r:Rules} (o:r.Phases.length<=20) (k: ∀(i:Nat) x,r.Phases[i]? =some x->x∉r.Phases.take i) {s:Str} (h:s∈r.Phases):Fac r.Phases s=some (aBi r.Phases s)/\(0<=aBi r.Phases s/\aBi r.Phases s<r.Phases.length)/\ ∀(i:Nat) u,r.Phases[i]? =some u->(s=u↔aBi r.Phases s=(i:Int)):=by
 rw [idx_zip _ _ (by omega) h];refine⟨aNx _ _ (by omega) h,?_⟩;obtain⟨j,n,b⟩:=aBq s _ 0 h;rw [Nat.zero_add]at n;rw [n];have p:=(gS.1 b).1;refine⟨⟨by omega,by omega⟩,λi u d=>⟨λe=>?_,λe=>?_⟩⟩
 ·subst e;rcases Nat.lt_trichotomy j i with c|c|c
  ·exfalso;refine k i s d ?_;exact qS (i:=j) (by rw [List.getElem?_take_of_lt c];exact b)
  ·rw [c]
  ·exfalso;refine k j s b ?_;exact qS (i:=i) (by rw [List.getElem?_take_of_lt c];exact d)
 ·have:j=i:=by omega
  subst this;rw [b]at d;exact oI d
def mvC (r:Rules):List Cond:=r.Moves.map dE.When
def rlC (r:Rules):List Cond:=r.Rules.map Rule.When
def rlP (r:Rules)(s:Str):Int:=(at' (kP (cNs (mvC r)) (rlC r)) (ruI r s)).getD 0
def ev0 (r:Rules)(l:List gZ):gG:=
 gG.mk r (l.map gZ.Name) (rM l) [] 0 ((List.replicate r.Phases.length false).set 0 true)
  ((aK 0 (mvC r)++aK (cNs (mvC r)) (rlC r)).map (kJ (rlP r))) ((cNs (mvC r):Nat):Int) (kP 0 (mvC r)) (kP (cNs (mvC r)) (rlC r))
theorem aXf {n:Nat}: ∀l:List Cond,(∀x∈l,cN x<=n)->cNs l<=n*l.length
 | [],_=>by rw [cNs];exact Nat.zero_le _
 |x::l,h=>by
  have c:=h x List.mem_cons_self;have d:=aXf l λy b=>h y (List.mem_cons_of_mem _ b)
  rw [cNs,List.length_cons,Nat.mul_add];omega
theorem begin_eq (r:Rules)(b:r.Phases.length<=20):Fda r=some ((List.replicate r.Phases.length false).set 0 true):=by
 unfold Fda;have mk:make' 1 (r.Phases.length:Int) (false:Bool)=some (List.replicate r.Phases.length false):=by
  unfold make';rw [if_pos ⟨by omega,by omega,by omega⟩,Int.toNat_natCast]
 simp only [zG];rw [mk,zC,List.length_replicate]
 cases h:r.Phases.length with
 |zero=>rfl
 |succ n=>
  rw [dT (by omega:(0:Int)<((n+1:Nat):Int)),zT];have a:at' (List.replicate (n+1) false) 0=some false:=by
   have:=yM (l:=List.replicate (n+1) false) (i:=0) (x:=false) (by simp [List.replicate_succ]);exact this
  have s:set' (List.replicate (n+1) false) 0 true=some ((List.replicate (n+1) false).set 0 true):=by
   unfold set';rw [if_pos ⟨by omega,by rw [List.length_replicate];omega⟩];rfl
  rw [a,zC,s];rfl
def pM (r:Rules)(c:Cond):Prop:=Gt c/\qN pMv c=false/\ ∀s∈kK c,s∈nK r
def pR (r:Rules)(i:Nat)(c:Cond):Prop:=Gt c/\qN (pRl r i) c=false/\ ∀s∈kK c,s∈nK r
theorem aZi {r:Rules}(c x:Cond)(h:pM r c)(b:x∈c.Kids):pM r x:=⟨h.1.kid b,aRj b h.2.1,λs d=>h.2.2 s (aIw b d)⟩
theorem aXu {r:Rules}{i:Nat}(c x:Cond)(h:pR r i c)(b:x∈c.Kids):pR r i x:=⟨h.1.kid b,aRj b h.2.1,λs d=>h.2.2 s (aIw b d)⟩
theorem pM_of {r:Rules}{l:List gZ}(h:GB r l){m:dE}(hm:m∈r.Moves):pM r m.When:=⟨(h.g.mg m hm).1,(mv_ok h.c hm).2.2,λ_ b=>nm_mv hm b⟩
theorem pR_of {r:Rules}{l:List gZ}(h:GB r l){i:Nat}{x:Rule}(b:r.Rules[i]? =some x):pR r i x.When:=⟨(h.g.lg x (qS b)).1,(aYp h.c i x b).2,λ_ d=>nm_rl (qS b) d⟩
theorem pMv_no {c:Cond}(h:qN pMv c=false):c.Kind≠6/\c.Kind≠7:=by
 have q:=aFi h;unfold pMv at q;constructor<;>(intro e;rw [e]at q;simp at q)
theorem dN_20 {c:Cond}(g:Gt c):dN c<=1000000:=by have:=g.d;omega
theorem mv_cN {r:Rules}{l:List gZ}(h:GB r l):cNs (mvC r)<=12000:=by
 have q:=aXf (n:=200) (mvC r) (λ_ b=>by obtain⟨m,hm,rfl⟩:=List.mem_map.1 b;exact(h.g.mg m hm).1.n);have:=h.g.m;unfold mvC at q⊢;rw [List.length_map]at q;omega
theorem rl_cN {r:Rules}{l:List gZ}(h:GB r l):cNs (rlC r)<=12000:=by
 have q:=aXf (n:=200) (rlC r) (λ_ b=>by obtain⟨m,hm,rfl⟩:=List.mem_map.1 b;exact(h.g.lg m hm).1.n);have:=h.g.l;unfold rlC at q⊢;rw [List.length_map]at q;omega
theorem rlP_at {r:Rules}{i:Nat}{s:Str}{l:List gZ} (h:s∈(r.Rules.take i).map Rule.Name): ∃(j:Nat) (x:Rule) (k:Int),ruI r s=(j:Int)/\(MkR r l i).rl s=(j:Int)/\j<i/\r.Rules[j]? =some x/\(kP (cNs (mvC r)) (rlC r))[j]? =some k/\rlP r s=k/\at' (kP (cNs (mvC r)) ((r.Rules.take i).map Rule.When)) (j:Int)=some k:=by
 obtain⟨j,x,c,n,o,d,-⟩:=ru_at (l:=l) h;have p:=(gS.1 d).1;have q:j<(kP (cNs (mvC r)) (rlC r)).length:=by rw [aCh];unfold rlC;rw [List.length_map];exact p
 have b:(kP (cNs (mvC r)) (rlC r))[j]? =some (kP (cNs (mvC r)) (rlC r))[j]:=gE q;refine⟨j,x,_,c,n,o,d,b,?_,?_⟩;unfold rlP;rw [c,qF,b];rfl;rw [qF,<-b];have e:rlC r=(r.Rules.take i).map Rule.When++(r.Rules.drop i).map Rule.When:=by rw [<-List.map_append,List.take_append_drop];rfl
 rw [e,aKh,List.getElem?_append_left];rw [aCh,List.length_map,List.length_take];omega
theorem aTg {r:Rules}{l:List gZ}(h:GB r l):Fb9 r l=some (ev0 r l):=by
 have g:=h.g;have B:=empty1 l (by have:=h.t.n;omega);have C:=begin_eq r g.p;have nm:=mv_cN h;have J:=rl_cN h;have D:=empty2 (r:=r) (ph:=(List.replicate r.Phases.length false).set 0 true) (nm:=l.map gZ.Name) (ds:=l.map λt=>t.Series.Den) (rl:=rlP r) (pM r) aZi
  (λv c b=>⟨⟨b.1.self.fr.1,b.1.self.fr.2⟩,b.1.kids,λd=>absurd d (pMv_no b.2.1).2⟩) (λm hm=>pM_of h hm) (by have:=g.m;omega) (λm hm=>dN_20 (g.mg m hm).1) (by show cNs (mvC r)<=_;omega)
 have ll:((aK 0 (mvC r)).map (kJ (rlP r))).length=cNs (mvC r):=by rw [List.length_map,mX]
 have w:=empty3 (r:=r) (ph:=(List.replicate r.Phases.length false).set 0 true) (nm:=l.map gZ.Name) (ds:=l.map λt=>t.Series.Den) (rl:=rlP r) (ns:=(aK 0 (mvC r)).map (kJ (rlP r))) (mv:=kP 0 (mvC r)) (f0:=((cNs (mvC r):Nat):Int))
  (λi x e=>⟨pR r i,aXu,pR_of h e,λv c E o b=>⟨⟨b.1.self.fr.1,b.1.self.fr.2⟩,b.1.kids,λd=>by
   have A:=(aFz i (aFi b.2.1)).2 d;obtain⟨_,_,_,F,a2,a3,a4,a5,G,H⟩:=rlP_at (l:=l) A;refine⟨ruI r c.Name,by rw [E];exact aZj r _ (by have:=g.l;omega) (by obtain⟨z,I,q⟩:=List.mem_map.1 A;exact List.mem_map.2 ⟨z,List.mem_of_mem_take I,q⟩),?_⟩;rw [o,ll,F,G];exact H⟩⟩) (by have:=g.l;omega) (λx e=>dN_20 (g.lg x e).1) (by rw [ll];show cNs (mvC r)+cNs (rlC r)<=_;omega)
 unfold Fb9;rw [C,zC,B,zC];dsimp only;rw [D,zC];simp only [zG];have s:((aK 0 (r.Moves.map dE.When)).map (kJ (rlP r))).length=cNs (mvC r):=ll;rw [ll]at w;rw [s];have u:Fdd r ((List.replicate r.Phases.length false).set 0 true) (l.map gZ.Name) (l.map λt=>t.Series.Den) (kP 0 (r.Moves.map dE.When)) ((cNs (mvC r):Nat):Int) (0,(aK 0 (r.Moves.map dE.When)).map (kJ (rlP r)),[])=_:=w;rw [u,zC];refine congrArg some ?_;unfold ev0;rw [List.map_append];rfl
def itm (M:Mk)(rl:Str->Int)(x:It):Itm:=⟨x.c,x.ks,M,if x.c.Kind=7 then rl x.c.Name else 0⟩
def aYc (b:Nat)(L:List Itm):Prop:= ∀(g:Nat) (it:Itm),L[g]? =some it->it.ks.length=it.c.Kids.length/\aOa it.c/\ ∀(j:Nat) (k:Int),it.ks[j]? =some k-> ∃(d:Nat) (y:Itm),k=((b+d:Nat):Int)/\d<g/\L[d]? =some y/\it.c.Kids[j]? =some y.c/\y.M=it.M
theorem aYc.app {b:Nat}{d w:List Itm} (A:aYc b d) (B:aYc (b+d.length) w):aYc b (d++w):=by
 intro g x e;by_cases c:g<d.length;rw [List.getElem?_append_left c]at e;obtain⟨h,a0,a2⟩:=A g x e;refine⟨h,a0,λj k n=>?_⟩;obtain⟨o,y,p,z,q,s,u⟩:=a2 j k n;exact⟨o,y,p,z,by rw [List.getElem?_append_left (by omega)];exact q,s,u⟩;rw [List.getElem?_append_right (by omega)]at e;obtain⟨h,a0,a2⟩:=B _ x e;refine⟨h,a0,λj k n=>?_⟩;obtain⟨o,y,p,z,q,s,u⟩:=a2 j k n;exact⟨d.length+o,y,by rw [p];congr 1;omega,by omega,by rw [List.getElem?_append_right (by omega),Nat.add_sub_cancel_left];exact q,s,u⟩
theorem aSy {b:Nat}{L:List It}{M:Mk}{rl:Str->Int}(h:aHz b L)(n: ∀x∈L,aOa x.c):aYc b (L.map (itm M rl)):=by
 intro g _ d;rw [List.getElem?_map,Option.map_eq_some_iff]at d;obtain⟨x,e,rfl⟩:=d;obtain⟨o,a2⟩:=h g x e;refine⟨o,n x (qS e),λj k p=>?_⟩;obtain⟨q,y,s,u,w,z⟩:=a2 j k p;exact⟨q,itm M rl y,s,u,by rw [List.getElem?_map,w];rfl,z,rfl⟩
theorem aKc {p:Cond->Prop}(e: ∀c x:Cond,p c->x∈c.Kids->p x): ∀(cs:List Cond) (b:Nat),(∀c∈cs,p c)-> ∀x∈aK b cs,p x.c
 | [],b,_,x,d=>by rw [aK]at d;simp at d
 |c::cs,b,j,x,d=>by
  rw [aK]at d;rcases mA.1 d with h|h
  ·exact aFk e b c (j c List.mem_cons_self) x h
  ·exact aKc e cs _ (λy k=>j y (List.mem_cons_of_mem _ k)) x h
def aBj (r:Rules)(l:List gZ):Nat->Nat->List Rule->List Itm
 |_,_,[]=>[]
 |i,b,x::xs=>(kQ b x.When).map (itm (MkR r l i) (rlP r))++aBj r l (i+1) (b+(kQ b x.When).length) xs
def tZ (r:Rules)(l:List gZ):List Itm:=(aK 0 (mvC r)).map (itm (MkR r l 0) (rlP r))++aBj r l 0 (cNs (mvC r)) r.Rules
section
variable {r:Rules}{l:List gZ}
theorem itmL_B: ∀(xs:List Rule) (i b:Nat),(∀(k:Nat) x,xs[k]? =some x->pR r (i+k) x.When)->aYc b (aBj r l i b xs)
 | [],i,b,_=>λg it h=>by rw [aBj]at h;simp at h
 |x::xs,i,b,h=>by
  rw [aBj];have d:=h 0 x rfl;refine(aSy (aRg b x.When) (λy c=>aUs (aFk aXu b x.When d y c).1)).app ?_;rw [List.length_map];exact itmL_B xs (i+1) _ λk y c=>by rw [show i+1+k=i+(k+1)by omega];exact h (k+1) y (by simpa using c)
theorem bCe: ∀(xs:List Rule) (i b:Nat),(aBj r l i b xs).map (λy=>(⟨y.c,y.ks⟩:It))=aK b (xs.map Rule.When)
 | [],_,_=>rfl
 |x::xs,i,b=>by
  rw [aBj,List.map_append,bCe xs,List.map_cons,aK,List.map_map]
  congr 1
  exact List.map_id _
theorem aZv: ∀(xs:List Rule) (i b:Nat),∀y∈aBj r l i b xs,y.rule=if y.c.Kind=7 then rlP r y.c.Name else 0
 | [],_,_,y,h=>by rw [aBj]at h;simp at h
 |x::xs,i,b,y,h=>by
  rw [aBj]at h;rcases mA.1 h with h|h
  ·obtain⟨z,d,rfl⟩:=List.mem_map.1 h;rfl
  ·exact aZv xs _ _ y h
theorem bBd: ∀y∈tZ r l,y.rule=if y.c.Kind=7 then rlP r y.c.Name else 0:=λy h=>by
 unfold tZ at h;rcases mA.1 h with h|h
 ·obtain⟨_,_,rfl⟩:=List.mem_map.1 h;rfl
 ·exact aZv _ _ _ y h
theorem aPv:(tZ r l).map (λy=>(⟨y.c,y.ks⟩:It))=aK 0 (mvC r)++aK (cNs (mvC r)) (rlC r):=by
 unfold tZ;rw [List.map_append,bCe,List.map_map];congr 1;exact List.map_id _
theorem aTd:(tZ r l).length=cNs (mvC r)+cNs (rlC r):=by
 have h:=congrArg List.length (aPv (r:=r) (l:=l));rw [List.length_map,List.length_append,mX,mX]at h;exact h
theorem bCd (h:GB r l):aUg (tZ r l):=by
 have q:aYc 0 (tZ r l):=by
  unfold tZ;refine(aSy (bAz _ 0) (λy e=>aUs (aKc aZi (mvC r) 0 (λc n=>by obtain⟨m,hm,rfl⟩:=List.mem_map.1 n;exact pM_of h hm) y e).1)).app ?_;rw [List.length_map,mX,Nat.zero_add];exact itmL_B _ 0 _ λk _ o=>by rw [Nat.zero_add];exact pR_of h o
 intro g it d;obtain⟨a,b,c⟩:=q g it d;refine⟨a,b,λj k p=>?_⟩;obtain⟨s,y,u,w⟩:=c j k p;exact⟨s,y,by rw [u,Nat.zero_add],w⟩
theorem aVy: ∀(xs:List Rule) (i b:Nat),(∀(k:Nat) x,xs[k]? =some x->pR r (i+k) x.When)-> ∀(g:Nat) it,(aBj r l i b xs)[g]? =some it-> ∃k,k<xs.length/\it.M=MkR r l (i+k)/\pR r (i+k) it.c/\
  ∀(j:Nat) y,j<k->xs[j]? =some y-> ∃(q:Nat) (z:Itm),(kP b (xs.map Rule.When))[j]? =some ((b+q:Nat):Int)/\q<g/\(aBj r l i b xs)[q]? =some z/\z.c=y.When/\z.M=MkR r l (i+j)
 | [],i,b,_,g,it,h=>by rw [aBj]at h;simp at h
 |x::xs,i,b,h,g,it,e=>by
  rw [aBj]at e⊢;have u:=h 0 x rfl;have F:=aFj b x.When;have d:((kQ b x.When).map (itm (MkR r l i) (rlP r))).length=(kQ b x.When).length:=List.length_map _
  by_cases c:g<(kQ b x.When).length
  ·rw [List.getElem?_append_left (by rw [d];exact c),List.getElem?_map,Option.map_eq_some_iff]at e;obtain⟨y,n,rfl⟩:=e;exact⟨0,by simp,rfl,aFk aXu b x.When u y (qS n),λj y o=>absurd o (Nat.not_lt_zero _)⟩
  ·rw [List.getElem?_append_right (by rw [d];omega),d]at e;obtain⟨k,_,p,s,w⟩:=aVy xs (i+1) (b+(kQ b x.When).length) (λk y n=>by rw [show i+1+k=i+(k+1)by omega];exact h (k+1) y (by simpa using n)) _ it e;have A:i+1+k=i+(k+1):=by omega
   rw [A]at p s;refine⟨k+1,by simp;omega,p,s,λj y o n=>?_⟩
   cases j with
   |zero=>
    obtain rfl:x=y:=by simpa using n
    refine⟨(kQ b x.When).length-1,itm (MkR r l i) (rlP r) ⟨x.When,(dF b x.When.Kids).2⟩,?_,by omega,?_,rfl,rfl⟩
    ·rw [List.map_cons,kP,List.getElem?_cons_zero];congr 2;omega
    ·rw [List.getElem?_append_left (by rw [d];omega),List.getElem?_map,aCy];rfl
   |succ j=>
    obtain⟨q,z,B,_,C,D,E⟩:=w j y (by omega) (by simpa using n);refine⟨(kQ b x.When).length+q,z,?_,by omega,?_,D,by rw [E];congr 1;omega⟩
    ·rw [List.map_cons,kP,List.getElem?_cons_succ,B];congr 2;omega
    ·rw [List.getElem?_append_right (by rw [d];omega),d,Nat.add_sub_cancel_left];exact C
theorem aPd: ∀(xs:List Rule) (i b j:Nat) (y:Rule),xs[j]? =some y-> ∃(q:Nat) (z:Itm),(kP b (xs.map Rule.When))[j]? =some ((b+q:Nat):Int)/\(aBj r l i b xs)[q]? =some z/\z.c=y.When/\z.M=MkR r l (i+j)
 | [],_,_,j,y,h=>by simp at h
 |x::xs,i,b,0,y,h=>by
  obtain rfl:x=y:=by simpa using h
  have p:=aFj b x.When;have d:((kQ b x.When).map (itm (MkR r l i) (rlP r))).length=(kQ b x.When).length:=List.length_map _;refine⟨(kQ b x.When).length-1,itm (MkR r l i) (rlP r) ⟨x.When,(dF b x.When.Kids).2⟩,?_,?_,rfl,rfl⟩
  ·rw [List.map_cons,kP,List.getElem?_cons_zero];congr 2;omega
  ·rw [aBj,List.getElem?_append_left (by rw [d];omega),List.getElem?_map,aCy];rfl
 |x::xs,i,b,j+1,y,h=>by
  have d:((kQ b x.When).map (itm (MkR r l i) (rlP r))).length=(kQ b x.When).length:=List.length_map _;obtain⟨q,z,e,k,n,o⟩:=aPd xs (i+1) (b+(kQ b x.When).length) j y (by simpa using h);refine⟨(kQ b x.When).length+q,z,?_,?_,n,by rw [o];congr 1;omega⟩
  ·rw [List.map_cons,kP,List.getElem?_cons_succ,e];congr 2;omega
  ·rw [aBj,List.getElem?_append_right (by rw [d];omega),d,Nat.add_sub_cancel_left];exact k
end
theorem aZk (E:En) (M:Mk): ∀(m:Nat) (c:Cond),dN c<=m->Gt c->ndA E 0 (mkN M c)=mkN M c
 |0,c,h,_=>by have:=uB c;omega
 |m+1,c,h,g=>by
  have d: ∀x∈c.Kids,ndA E 0 (mkN M x)=mkN M x:=λx b=>by
   obtain⟨_,n⟩:=List.getElem?_of_mem b;exact aZk E M m x (by have:=(uH g.ok n).2.1;omega) (g.kid b)
  have gk:=g.gk;have p:=g.self;have k:aHb E 0 (c.Kids.map (mkN M))=c.Kids.map (mkN M):=by
   rw [aTb,List.map_map];exact List.map_congr_left λx b=>d x b
  rw [nD];rcases kinds p.k1 with e|e|e|e|e|e|e|e|e|e|e|e|e|e|e<;>rw [e]<;>simp only [mkK,Int.reduceEq,if_true,if_false,or_true,true_or,or_self]
  ·rw [ndA]
  ·rw [ndA]
  ·rw [ndA]
  ·rw [ndA]
  ·rw [ndA,win_zero]
  ·rw [ndA]
  ·rw [ndA]
  ·obtain⟨x,b⟩:=jG (gk.o (by omega));rw [b,ndA,List.map_singleton,List.getD_cons_zero,d x (by rw [b];exact List.mem_cons_self)]
  ·rw [ndA,k]
  ·rw [ndA,k]
  ·obtain⟨x,b⟩:=jG (gk.o (by omega));rw [b,ndA,List.map_singleton,List.getD_cons_zero,d x (by rw [b];exact List.mem_cons_self),win_zero]
  ·obtain⟨x,b⟩:=jG (gk.o (by omega));rw [b,ndA,List.map_singleton,List.getD_cons_zero,d x (by rw [b];exact List.mem_cons_self),win_zero]
  ·obtain⟨x,b⟩:=jG (gk.o (by omega));rw [b,ndA,List.map_singleton,List.getD_cons_zero,d x (by rw [b];exact List.mem_cons_self),win_zero]
  ·obtain⟨x,y,b⟩:=aGa (gk.t e);rw [b];show ndA E 0 (.since (mkN M x) (mkN M y) 0 false)= .since (mkN M x) (mkN M y) 0 false;rw [ndA,d x (by rw [b];simp),d y (by rw [b];simp)];rfl
  ·obtain⟨x,b⟩:=jG (gk.o (by omega));rw [b,List.map_singleton,List.getD_cons_zero,ndA,d x (by rw [b];exact List.mem_cons_self)];rfl
theorem aRr {r:Rules}{l:List gZ} (h:GB r l) (f:Nat->List fD):NewA f (eH r l):=by
 have g:=h.g;refine⟨λx b=>?_,λk c=>?_⟩
 ·obtain⟨m,hm,rfl⟩:=List.mem_map.1 b;exact aZk _ _ _ m.When (Nat.le_refl _) (g.mg m hm).1
 ·obtain⟨i,hi⟩:=List.getElem?_of_mem c;change (r.Rules.mapIdx (rlN r l))[i]? =some k at hi;rw [List.getElem?_mapIdx,Option.map_eq_some_iff]at hi;obtain⟨x,b,rfl⟩:=hi;exact aZk _ _ _ x.When (Nat.le_refl _) (g.lg x (qS b)).1
structure FrI (l:List gZ)(f:Nat->List fD):Prop where
 len: ∀t,(f t).length=l.length
 bd: ∀t x,x∈f t-> -1125899906842624<=x.N/\x.N<=1125899906842624
section
variable {r:Rules}{l:List gZ}{f:Nat->List fD}{t:Nat}
theorem aSi (h:GB r l)(b:FrI l f)(t:Nat):((EnW f (eH r l)).ps t).length=r.Phases.length:=by
 rw [ps_A (aDc h) b.len (aRr h f),aJs,List.length_replicate]
theorem rlE_rng (h:GB r l)(b:FrI l f)(t:Nat): ∀x∈(EnW f (eH r l)).rl t,0<=x/\x<=2:=(aRn (aJh (aDc h) b.len t) (b.len t)).2.2.1
theorem bAy (h:GB r l)(o:FrI l f){R:Nat}(k:Nd)(j:wfN l.length r.Phases.length R k)(t:Nat):0<=den (EnW f (eH r l)) k t/\den (EnW f (eH r l)) k t<=2:=by
 have g:=h.g
 cases k with
 |constant c=>rw [wfN]at j;rw [den];exact j
 |number tr op n=>
  rw [wfN]at j;rw [den];dsimp only;unfold aPu;obtain⟨y,e,q⟩:=aOf (m:=(EnW f (eH r l)).m t) (tr:=tr) (op:=op) (n:=n) ⟨j.1,by show tr<((f t).length:Int);rw [o.len];exact j.2⟩;rw [e];exact q
 |pair a b da db op=>
  rw [wfN]at j;rw [den];dsimp only;unfold pairT;obtain⟨y,e,q⟩:=bAo (m:=(EnW f (eH r l)).m t) (a:=a) (b:=b) (da:=da) (db:=db) (op:=op) ⟨⟨j.1.1,by show a<((f t).length:Int);rw [o.len];exact j.1.2⟩,j.2.1,by show b<((f t).length:Int);rw [o.len];exact j.2.2⟩;rw [e];exact q
 |steady tr n fr _=>
  rw [den];dsimp only;unfold stT;split
  ·omega
  ·split<;>omega
 |phase p=>
  rw [wfN]at j;rw [den];dsimp only;unfold uD;have u:=aSi h o t;obtain⟨y,e,q⟩:=aVz (m:=(EnW f (eH r l)).m t) (p:=p) ⟨j.1,by show p<(((EnW f (eH r l)).ps t).length:Int);rw [u];exact j.2⟩ (by show((EnW f (eH r l)).ps t).length<=_;rw [u];have:=g.p;omega);rw [e];exact q
 |rule i=>
  rw [den];dsimp only;unfold aIc
  cases e:at' ((EnW f (eH r l)).m t).rules i with
  |none=>exact⟨by decide,by decide⟩
  |some y=>
   have m:y∈(EnW f (eH r l)).rl t:=by
    unfold at' at e;split at e
    ·exact qS e
    ·exact absurd e (by simp)
   exact rlE_rng h o t y m
 |not k=>rw [den];exact bAl _
 |group _ s=>rw [den];cases s<;>exact aQr (by decide) _ _ (by decide)
 |count k n fr a b=>rw [den];exact aWa _ _ _
 |since a b c _=>
  rw [den]
  cases t with
  |zero=>rw [aEg];exact aAo _ _ _
  |succ t=>rw [aEg];exact aAo _ _ _
 |rises k a b=>rw [den];exact aKs _ _
theorem wf_M (h:GB r l){c:Cond}(b:pM r c):wfN l.length r.Phases.length 0 (mkN (MkR r l 0) c):=by
 refine aLh (MkR r l 0) pMv (λc b=>?_) (dN c) c (Nat.le_refl _) b.1 (λs d=>aKk (h.n s (b.2.2 s d))) b.2.1;unfold pMv at b;constructor<;>(intro e;rw [e]at b;simp at b)
theorem wf_R (h:GB r l){i:Nat}{c:Cond}(b:pR r i c):wfN l.length r.Phases.length i (mkN (MkR r l i) c):=by
 refine aLh (MkR r l i) (pRl r i) (λc b=>?_) (dN c) c (Nat.le_refl _) b.1 (λs d=>aKk (h.n s (b.2.2 s d))) b.2.1;obtain⟨k,o⟩:=aFz i b;refine⟨λe=>aYq h (k e),λe=>?_⟩;obtain⟨_,_,-,p,_,-⟩:=ru_at (l:=l) (o e);rw [p];omega
theorem itms_M (h:GB r l){n:Nat}{it:Itm}(d:n<cNs (mvC r))(b:(tZ r l)[n]? =some it):it.M=MkR r l 0/\pM r it.c:=by
 unfold tZ at b;rw [List.getElem?_append_left (by rw [List.length_map,mX];exact d),List.getElem?_map,Option.map_eq_some_iff]at b;obtain⟨y,e,rfl⟩:=b;exact⟨rfl,aKc aZi (mvC r) 0 (λc j=>by obtain⟨m,hm,rfl⟩:=List.mem_map.1 j;exact pM_of h hm) y (qS e)⟩
theorem itms_R (h:GB r l){n:Nat}{it:Itm}(u:cNs (mvC r)<=n)(e:(tZ r l)[n]? =some it): ∃k,k<r.Rules.length/\it.M=MkR r l k/\pR r k it.c/\
    ∀(j:Nat) y,j<k->r.Rules[j]? =some y-> ∃(q:Nat) (z:Itm),(kP (cNs (mvC r)) (rlC r))[j]? =some (q:Int)/\q<n/\(tZ r l)[q]? =some z/\z.c=y.When/\z.M=MkR r l j:=by
 have b:((aK 0 (mvC r)).map (itm (MkR r l 0) (rlP r))).length=cNs (mvC r):=by rw [List.length_map,mX]
 have d:=e;unfold tZ at d;rw [List.getElem?_append_right (by rw [b];exact u),b]at d;obtain⟨k,w,o,p,A⟩:=aVy r.Rules 0 _ (λk _ B=>by rw [Nat.zero_add];exact pR_of h B) _ it d;rw [Nat.zero_add]at o p;refine⟨k,w,o,p,λj y C D=>?_⟩;obtain⟨q,z,E,_,F,G,s⟩:=A j y C D;rw [Nat.zero_add]at s;refine⟨cNs (mvC r)+q,z,E,by omega,?_,G,s⟩;unfold tZ;rw [List.getElem?_append_right (by rw [b];omega),b,Nat.add_sub_cancel_left];exact F
theorem itms_rng (h:GB r l) (e:FrI l f): ∀it∈tZ r l,∀s,0<=den (EnW f (eH r l)) (mkN it.M it.c) s/\den (EnW f (eH r l)) (mkN it.M it.c) s<=2:=λit d s=>by
 obtain⟨n,j⟩:=List.getElem?_of_mem d
 by_cases c:n<cNs (mvC r)
 ·obtain⟨a,b⟩:=itms_M h c j;rw [a];exact bAy h e _ (wf_M h b) s
 ·obtain⟨_,-,a,b,-⟩:=itms_R h (by omega) j;rw [a];exact bAy h e _ (wf_R h b) s
theorem at_eq6 (h:GB r l)(d:FrI l f){v:gG}(e:v.names=l.map gZ.Name)(hd:v.dens=rM l)(j:v.told=f t){s:Str}(k:s∈nK r)(i:Nat):
  Fae v s=some ((EnW f (eH r l)).tk ((MkR r l i).tr s) t,(MkR r l i).dn ((MkR r l i).tr s))/\at' ((EnW f (eH r l)).told t) ((MkR r l i).tr s)=some ((EnW f (eH r l)).tk ((MkR r l i).tr s) t):=by
 have hm:=h.n s k;have c:=aKk hm;have o:=aNx (l.map gZ.Name) s (by rw [List.length_map];have:=h.t.n;omega) hm;obtain⟨_,p⟩:=wC (l:=f t) (i:=trI l s) (by rw [d.len];exact c);have a2:at' ((EnW f (eH r l)).told t) ((MkR r l i).tr s)=some ((EnW f (eH r l)).tk ((MkR r l i).tr s) t):=by
  unfold En.tk;show at' (f t) (trI l s)=some ((at' (f t) (trI l s)).getD _);rw [p];rfl
 refine⟨?_,a2⟩;have b:at' (f t) (trI l s)=some ((EnW f (eH r l)).tk ((MkR r l i).tr s) t):=a2;have a3:at' (rM l) (trI l s)=some ((MkR r l i).dn ((MkR r l i).tr s)):=at_D (by unfold rM;rw [List.length_map];exact c);unfold Fae;rw [e,hd,j,o,zC];show gB (at' (f t) (trI l s)) _=_;rw [b,zC];show gB (at' (rM l) (trI l s)) _=_;rw [a3,zC]
theorem tk_bd (c:FrI l f)(w:fB)(tr:Int)(s:Nat): -1125899906842624<=((EnW f w).tk tr s).N/\((EnW f w).tk tr s).N<=1125899906842624:=by
 unfold En.tk
 cases e:at' ((EnW f w).told s) tr with
 |none=>exact⟨by decide,by decide⟩
 |some y=>
  have m:y∈f s:=by
   have b:at' (f s) tr=some y:=e;unfold at' at b;split at b
   ·exact qS b
   ·exact absurd b (by simp)
  exact c.bd s y m
theorem aVn (h:GB r l) (b:FrI l f) {v:gG} (e:v.names=l.map gZ.Name) (hd:v.dens=rM l) (j:v.told=f t) (d:v.frames=(t:Int)) (n:t<=1000000000) {i:Nat}{c:Cond}{x:gJ} (o: ∀s∈kK c,s∈nK r)
  (ph:c.Kind=6->v.phase=(EnW f (eH r l)).ps t/\v.phase.length<=2000000/\Fac v.r.Phases c.Name=some ((MkR r l i).ph c.Name)/\0<=(MkR r l i).ph c.Name/\(MkR r l i).ph c.Name<v.phase.length)
  (rl:c.Kind=7-> ∃y,at' v.nodes x.rule=some y/\at' ((EnW f (eH r l)).rl t) ((MkR r l i).rl c.Name)=some y.now):Looks (EnW f (eH r l)) (MkR r l i) t c x v:=by
 have nm: ∀s∈nm1 c,s∈nK r:=λs p=>o s (by rw [aAx,mA];exact .inl p)
 refine⟨d,n,λk=>at_eq6 h b e hd j (nm _ ?_) i,λk=>at_eq6 h b e hd j (nm _ ?_) i,λtr s=>tk_bd b _ tr s,ph,rl⟩
 ·unfold nm1;rcases k with k|k|k<;>simp [k]
 ·unfold nm1;simp [k]
end
structure EvI (r:Rules)(l:List gZ)(f:Nat->List fD)(t:Nat)(v:gG):Prop where
 rs:v.r=r
 names:v.names=l.map gZ.Name
 dens:v.dens=rM l
 frames:v.frames=(t:Int)
 phase:v.phase=psB (EnW f (eH r l)) (eH r l) t
 nd:tK (EnW f (eH r l)) (tZ r l) v.nodes 0 t
 first:v.first=((cNs (mvC r):Nat):Int)
 moves:v.moves=kP 0 (mvC r)
 rules:v.rules=kP (cNs (mvC r)) (rlC r)
section
variable {r:Rules}{l:List gZ}{f:Nat->List fD}{t:Nat}{v:gG}
theorem aTf (h:GB r l) (f:Nat->List fD):EvI r l f 0 (ev0 r l):=by
 refine⟨rfl,rfl,rfl,rfl,rfl,⟨?_,λg it b=>?_⟩,rfl,rfl,rfl⟩;show(List.map _ _).length=_;rw [List.length_map,<-aPv (l:=l),List.length_map];have hi:=(bCd h g it b).2.1;have e:(aK 0 (mvC r)++aK (cNs (mvC r)) (rlC r))[g]? =some ⟨it.c,it.ks⟩:=by rw [<-aPv (l:=l),List.getElem?_map,b];rfl
 refine⟨kJ (rlP r) ⟨it.c,it.ks⟩,?_,?_,?_⟩;show(List.map _ _)[g]? =_;rw [List.getElem?_map,e];rfl;rw [if_neg (Nat.not_lt_zero _)];exact node0_I (it:=⟨it.c,it.ks⟩) hi;rw [bBd it (qS b)];rfl
theorem rlE_at (h:GB r l)(b:FrI l f){j:Nat}{y:Rule}(c:r.Rules[j]? =some y)(t:Nat):at' ((EnW f (eH r l)).rl t) (j:Int)=some (den (EnW f (eH r l)) (mkN (MkR r l j) y.When) t):=by
 rw [rl_A (aDc h) b.len (aRr h f) t,qF,List.getElem?_map];show Option.map _ ((r.Rules.mapIdx (rlN r l))[j]?)=_;rw [List.getElem?_mapIdx,c];rfl
theorem look_R (h:GB r l) (o:FrI l f) (d:EvI r l f t v) (D:t<=1000000000) {n:Nat}{ns:List gJ}{it:Itm}{x:gJ} (E:cNs (mvC r)<=n) (F:tK (EnW f (eH r l)) (tZ r l) ns n t) (b:(tZ r l)[n]? =some it) (s:x.rule=it.rule):
    Looks (EnW f (eH r l)) it.M t it.c x (wN v (f t) ((EnW f (eH r l)).ps t) ns):=by
 obtain⟨k,_,G,u,H⟩:=itms_R h E b;have g:=h.g;obtain⟨m1,m2⟩:=aFz k (aFi u.2.1);have A:=aSi h o t;rw [G];refine aVn (v:=wN v (f t) ((EnW f (eH r l)).ps t) ns) h o d.names d.dens rfl d.frames D u.2.2 (λe=>?_) λe=>?_;obtain⟨I,B,-⟩:=ph_at g.p g.pd (m1 e);refine⟨rfl,by show((EnW f (eH r l)).ps t).length<=_;rw [A];have:=g.p;omega,?_,B.1,?_⟩;show Fac v.r.Phases _=_;rw [d.rs];exact I;show aBi r.Phases it.c.Name<(((EnW f (eH r l)).ps t).length:Int);rw [A];exact B.2;obtain⟨j,y,_,_,a2,a3,a4,a5,J,-⟩:=rlP_at (l:=l) (m2 e);obtain⟨_,_,C,K,L,N,O⟩:=H j y a3 a4;obtain⟨w,P,Q⟩:=F.now (v:=wN v (f t) ((EnW f (eH r l)).ps t) ns) L K;refine⟨w,?_,?_⟩;rw [s,bBd it (qS b),if_pos e,J];rw [a5]at C;rw [oI C];exact yM P;rw [a2,rlE_at h o a4 t,Q,N,O]
theorem look_M (h:GB r l)(k:FrI l f)(b:EvI r l f t v)(o:t<=1000000000){n:Nat}{ns:List gJ}{it:Itm}{x:gJ}{ph:List Bool}(p:n<cNs (mvC r))(d:(tZ r l)[n]? =some it):
    Looks (EnW f (eH r l)) it.M t it.c x (wN v (f t) ph ns):=by
 obtain⟨q,j⟩:=itms_M h p d;obtain⟨s,u⟩:=pMv_no j.2.1;rw [q];exact aVn (v:=wN v (f t) ph ns) h k b.names b.dens rfl b.frames o j.2.2 (λe=>absurd e s) λe=>absurd e u
theorem moved_6 (h:GB r l) (j:FrI l f) (b:EvI r l f t v) {ns:List gJ} (C:tK (EnW f (eH r l)) (tZ r l) ns (cNs (mvC r)) t):
  Fbe (wN v (f t) v.phase ns) v.phase=some ((EnW f (eH r l)).ps t):=by
 have g:=h.g;have M:=g.p;rw [ps_A (aDc h) j.len (aRr h f) t,b.phase];have n:((eH r l).moves.map λx=>(x,den (EnW f (eH r l)) x.when t)).length=r.Moves.length:=by
  rw [List.length_map];show(r.Moves.map (mvN r l)).length=_;rw [List.length_map]
 refine moved_ok6 (v:=wN v (f t) (psB (EnW f (eH r l)) (eH r l) t) ns) (zs:=(eH r l).moves.map λx=>(x,den (EnW f (eH r l)) x.when t)) (P:=r.Phases.length) ⟨?_,?_,?_,λk _ o=>?_⟩ _ ?_ (by omega)
 ·show v.r.Moves.length=_;rw [b.rs,n]
 ·rw [n];have:=g.m;omega
 ·show v.r.Phases.length=_;rw [b.rs]
 ·rw [List.getElem?_map,Option.map_eq_some_iff]at o;obtain⟨x,d,rfl⟩:=o;change (r.Moves.map (mvN r l))[k]? =some x at d;rw [List.getElem?_map,Option.map_eq_some_iff]at d;obtain⟨m,hm,rfl⟩:=d;have D:=qS hm;obtain⟨f1,f2,-⟩:=mv_ok h.c D;obtain⟨q,y,u,A,E⟩:=aUw (mvC r) 0 k m.When (by unfold mvC;rw [List.getElem?_map,hm];rfl);rw [Nat.zero_add]at u;have B:q<cNs (mvC r):=by have:=(gS.1 A).1;rwa [mX]at this
  have F:(tZ r l)[q]? =some (itm (MkR r l 0) (rlP r) y):=by
   unfold tZ;rw [List.getElem?_append_left (by rw [List.length_map,mX];exact B),List.getElem?_map,A];rfl
  obtain⟨w,G,H⟩:=C.now (v:=wN v (f t) v.phase ns) F B;obtain⟨_,_,I⟩:=ph_at g.p g.pd f1;obtain⟨J,K,-⟩:=ph_at g.p g.pd f2;refine⟨m,(q:Int),w,?_,?_,yM G,?_,?_,K,λi s L=>?_⟩
  ·show v.r.Moves[k]? =_;rw [b.rs];exact hm
  ·show at' v.moves (k:Int)=_;rw [b.moves,qF];exact u
  ·rw [H];show den _ (mkN (MkR r l 0) y.c) t=den _ (mkN (MkR r l 0) m.When) t;rw [E]
  ·show Fac v.r.Phases m.To=_;rw [b.rs];exact J
  ·refine I i s ?_;have e:v.r.Phases[i]? =some s:=L;rwa [b.rs]at e
 ·rw [<-aQc];exact(aJh (aDc h) j.len t).po
theorem next_6 (h:GB r l) (o:FrI l f) (b:EvI r l f t v) (p:t<=1000000000): ∃e,Faq v (f t)=some e/\EvI r l f (t+1) e/\e.phase=(EnW f (eH r l)).ps t/\e.told=f t/\
  ∀(j:Nat) y,r.Rules[j]? =some y-> ∃k x,at' e.rules (j:Int)=some k/\at' e.nodes k=some x/\at' ((EnW f (eH r l)).rl t) (j:Int)=some x.now:=by
 have D:=bCd h;have ll:(tZ r l).length<=24000:=by rw [aTd];have:=mv_cN h;have:=rl_cN h;omega
 obtain⟨ns,F,A⟩:=frame6_ok (E:=EnW f (eH r l)) (told:=f t) D b.nd b.first (by rw [aTd];omega) (by omega) (itms_rng h o) b.frames p
  (λn ns it x s _ d _ _=>look_M h o b p s d)
  (λn ns it x s u d _ w=>look_R h o b p s u d w)
  (λns u=>moved_6 h o b u)
 refine⟨_,F,⟨b.rs,b.names,b.dens,rfl,rfl,A,b.first,b.moves,b.rules⟩,rfl,rfl,λj y B=>?_⟩;obtain⟨q,z,G,H,I,J⟩:=aPd (r:=r) (l:=l) r.Rules 0 (cNs (mvC r)) j y B;have K:(tZ r l)[cNs (mvC r)+q]? =some z:=by
  have c:((aK 0 (mvC r)).map (itm (MkR r l 0) (rlP r))).length=cNs (mvC r):=by rw [List.length_map,mX]
  unfold tZ;rw [List.getElem?_append_right (by rw [c];omega),c,Nat.add_sub_cancel_left];exact H
 obtain⟨x,L,C,-⟩:=A.nd _ z K;rw [if_neg (Nat.not_lt_zero _)]at C;refine⟨((cNs (mvC r)+q:Nat):Int),x,?_,yM L,?_⟩
 ·show at' v.rules (j:Int)=_;rw [b.rules,qF];exact G
 ·rw [rlE_at h o B t,C.now,I,J,Nat.zero_add];rfl
end
def tel (l:List gZ)(a:Int)(k:Nat):List fD:=l.map (inT (a+(k:Int)))
theorem aSj (l:List gZ)(a:Int)(k:Nat):(tel l a k).length=l.length:=by unfold tel;rw [List.length_map]
def spn (a b:Int):Nat:=(b-a+1).toNat
def cols (m:Nat)(rows:List (List Int)):List (List Int):=(List.range m).map λi=>rows.map λrow=>row.getD i 0
theorem aCg {m:Nat}{rows:List (List Int)}{i:Nat}(h:i<m):(cols m rows)[i]? =some (rows.map λrow=>row.getD i 0):=by
 unfold cols;rw [List.getElem?_map,List.getElem?_range h];rfl
theorem nP (m:Nat)(rows:List (List Int)):(cols m rows).length=m:=by unfold cols;simp
theorem EvL_ok (v:List Int) (ph:List Str) (m:Nat) (rows:List (List Int)) (e:v.length=m) (hm:m<=1000) (n:rows.length<=100000):Fdm v ph (cols m rows)=some (cols m (rows++[v])):=by
 unfold Fdm Fh8;rw [zG];have h: ∀i,i<m->(cols m (rows++[v])).take i++(cols m rows).drop i=(cols m (rows++[v])).take i++(rows.map λrow=>row.getD i 0)::(cols m rows).drop (i+1):=λi hi=>by
  rw [List.drop_eq_getElem_cons (by rw [nP];exact hi)];have:=aCg (rows:=rows) hi;rw [gE (by rw [nP];exact hi)]at this;rw [oI this]
 refine(dK (λ(i:Nat)=>((i:Int),(cols m (rows++[v])).take i++(cols m rows).drop i)) v (some (cols m (rows++[v]))) (by omega) ?_ ?_)
 ·intro k i x d hi;have b:((cols m (rows++[v])).take i).length=i:=by rw [List.length_take,nP];omega
  have c:v.getD i 0=x:=by rw [List.getD_eq_getElem?_getD,d];rfl
  have j:(cols m (rows++[v]))[i]? =some ((rows.map λrow=>row.getD i 0)++[x]):=by
   rw [aCg (by omega),List.map_append,List.map_singleton,c]
  simp only [zG];rw [yR hi,zT,yM d,h i (by omega),aGr _ _ _ i b];simp only [zC];rw [ap8 (by rw [List.length_map];omega),zC,aGk _ _ _ _ i b,zC,fQ hi (by omega),pY j,List.append_assoc];rfl
 ·intro k;simp only [zG];rw [e,yS,zM,List.take_of_length_le (by rw [nP];exact Nat.le_refl _),List.drop_eq_nil_of_le (by rw [nP];exact Nat.le_refl _),List.append_nil]
theorem aWc {r:Rules}{l:List gZ}(h:GB r l){a:Int}(k:Nat)(q:0<=a)(s:a+k<=4194303):
  Fbr l (a+(k:Int))=some (tel l a k)/\Fa2 (runT (tel l a) (eH r l) k).2 (tel l a k)=some (nxt (tel l a k) (runT (tel l a) (eH r l) k).2)/\
  Fax (nxt (tel l a k) (runT (tel l a) (eH r l) k).2).2=some (phL (runT (tel l a) (eH r l) (k+1)).2.possible r.Phases):=by
 have c:=aDc h;have d:=aJh (f:=tel l a) c (aSj l a) k;obtain⟨j,o,_,_⟩:=aRn d (aSj l a k);refine⟨inputs_eq l _ h.t (by omega) (by omega),j,?_⟩;rw [Phase_eq o];have e: ∀n,(runT (tel l a) (eH r l) n).2.phases=r.Phases:=by
  intro n
  induction n with
  |zero=>rfl
  |succ n p=>exact p
 have b:=e (k+1);change (nxt (tel l a k) (runT (tel l a) (eH r l) k).2).2.phases=_ at b;rw [b];rfl
theorem aXv {r:Rules}{l:List gZ}(f:Nat->List fD): ∀n,(runT f (eH r l) n).2.rules.length=r.Rules.length
 |0=>by show(r.Rules.mapIdx _).length=_;simp
 |n+1=>by
  show(nxt (f n) (runT f (eH r l) n).2).2.rules.length=_;rw [(aGd _ _).2,aXv f n]
theorem span_bind (a b:Int) (K:Bool->Option (Int×List (List Int))):(gB (gI (decide (a<0)) λc=>gB (gU c (some true) (gI (decide (b<a)) λd=>some d)) λe=>gU e (some true) (gI (decide (4194304<=b)) λh=>some h)) K)=K (decide (a<0\/b<a\/4194304<=b)):=by
 simp only [zG];by_cases j:a<0;rw [dT j,dT (Or.inl j)];rfl;rw [qD j];by_cases k:b<a;rw [dT k,dT (Or.inr (Or.inl k))];rfl;rw [qD k];by_cases n:4194304<=b;rw [dT n,dT (Or.inr (Or.inr n))];rfl;rw [qD n,qD (by omega)];rfl
theorem aQt {a b:Int}(h:0<=a/\a<=b/\b<=4194303):IntKind.i64.wrap (IntKind.i64.wrap (b-a)+1)=b-a+1:=by
 rw [wrap_i64 (n:=b-a) (by omega) (by omega),wrap_i64 (by omega) (by omega)]
def evV (r:Rules)(l:List gZ)(a b:Int):List (List Int):=cols r.Rules.length (runT (tel l a) (eH r l) (spn a b)).1
theorem evalL_ok {r:Rules}{l:List gZ} (h:GB r l) {a b:Int} (c:vV a b=0):
    Fd2 l b (a,cols r.Rules.length [],(eH r l).phases,(eH r l).tracks,(eH r l).moves,(eH r l).rules,(eH r l).possible)=some (evV r l a b):=by
 obtain⟨s1,_,_,_⟩:=aCu c;have j:=h.g.l;have n:spn a b=(b-a+1).toNat:=rfl;unfold Fd2;rw [show(a,cols r.Rules.length [],(eH r l).phases,(eH r l).tracks,(eH r l).moves,(eH r l).rules,(eH r l).possible)=(a+((0:Nat):Int),cols r.Rules.length [],(eH r l).phases,(eH r l).tracks,(eH r l).moves,(eH r l).rules,(eH r l).possible)by simp];refine dK (β:=List (List Int)) (γ:=Int×List (List Int)×List Str×Int×List fK×List Nd×List Bool) (λi=>(a+(i:Int),cols r.Rules.length (runT (tel l a) (eH r l) i).1,(runT (tel l a) (eH r l) i).2.phases,(runT (tel l a) (eH r l) i).2.tracks,(runT (tel l a) (eH r l) i).2.moves,(runT (tel l a) (eH r l) i).2.rules,(runT (tel l a) (eH r l) i).2.possible)) (List.replicate (spn a b) ()) (some (evV r l a b)) (by simp;omega) (λk i _ _ hi=>?_) (λk=>?_);rw [List.length_replicate]at hi;obtain⟨f1,f2,f3⟩:=aWc h (a:=a) i s1 (by omega);simp only [zG];rw [dT (by omega:a+(i:Int)<=b),zT,f1,zC];show gB (Fa2 (runT (tel l a) (eH r l) i).2 (tel l a i)) _=_;rw [f2,zC];show gB (Fax (nxt (tel l a i) (runT (tel l a) (eH r l) i).2).2) _=_;rw [f3,zC,EvL_ok _ _ _ _ (by rw [(aGd _ _).1,aXv]) (by omega) (by rw [aFu];omega),zC,wrap_i64 (by omega) (by omega)];rw [show a+(i:Int)+1=a+((i+1:Nat):Int)by omega];rfl;rw [List.length_replicate];simp only [zG];rw [qD (by omega: ¬a+((spn a b:Nat):Int)<=b),zM];rfl
theorem aUf {r:Rules}{l:List gZ} (o:okR r) (p:okL pI l) (u:r.Rules.length<=2000000) {a b:Int} (_:i64 a) (_:i64 b):Fc8 r l a b=some (if evE r l a b=0 then(evV r l a b,0)else([],evE r l a b)):=by
 have mk:make' 24 (r.Rules.length:Int) ([]:List Int)=some (cols r.Rules.length []):=by
  unfold make';rw [if_pos ⟨by omega,by omega,by omega⟩,Int.toNat_natCast];unfold cols
  congr 1
  apply List.ext_getElem?;intro i;rw [List.getElem?_replicate,List.getElem?_map]
  by_cases c:i<r.Rules.length
  ·rw [if_pos c,List.getElem?_range c];rfl
  ·rw [if_neg c,List.getElem?_eq_none (by simp;omega)];rfl
 unfold Fc8;simp only [zG];rw [mk,zC];have k: ∃z,Fdu r l a b (cols r.Rules.length [])=some (evE r l a b,z)/\(evE r l a b=0->z=evV r l a b):=by
  unfold Fdu;rw [aEu o p,zC];simp only [zG];unfold evE
  by_cases z:aBn r l=0
  ·have g:=aQu o z;rw [qD (by simpa using z),zM,if_neg (by simpa using z)];have sb:=span_bind a b (λn=>gU n (some (9,cols r.Rules.length [])) (gU (decide (20000<IntKind.i64.wrap (IntKind.i64.wrap (b-a)+1))) (some (3,cols r.Rules.length [])) (gB (Fbk r l) λe=>gB (Fd2 l b (a,cols r.Rules.length [],e.phases,e.tracks,e.moves,e.rules,e.possible)) λj=>some (0,j))));simp only [zG]at sb;rw [sb];unfold vV
   by_cases c:a<0\/b<a\/4194304<=b
   ·rw [dT c,zT,if_pos c];exact⟨_,rfl,λh=>absurd h (by decide)⟩
   ·rw [qD c,zM,if_neg c,aQt (by omega)]
    by_cases d:20000<b-a+1
    ·rw [dT d,zT,if_pos d];exact⟨_,rfl,λh=>absurd h (by decide)⟩
    ·rw [qD d,zM,if_neg d,aIi g,zC,evalL_ok g (by unfold vV;rw [if_neg c,if_neg d]),zC];exact⟨_,rfl,λ_=>rfl⟩
  ·rw [dT (by simpa using z),zT,if_pos (by simpa using z)];exact⟨_,rfl,λh=>absurd h z⟩
 obtain⟨z,q,s⟩:=k;rw [q,zC];simp only []
 by_cases c:evE r l a b=0
 ·rw [s c,c,if_pos rfl];rfl
 ·rw [dT (by simpa using c),zT,if_neg c]
def aMe (r:Rules)(l:List gZ)(a:Int)(k:Nat):List Str:=phL (runT (tel l a) (eH r l) (k+1)).2.possible r.Phases
def evP (r:Rules)(l:List gZ)(a b:Int):List (List Str):=(List.range (spn a b)).map (aMe r l a)
theorem evalP_ok {r:Rules}{l:List gZ} (h:GB r l) {a b:Int} (c:vV a b=0):
  Fdj l b (a,[],(eH r l).phases,(eH r l).tracks,(eH r l).moves,(eH r l).rules,(eH r l).possible)=some (evP r l a b):=by
 obtain⟨s1,_,_,_⟩:=aCu c;have j:spn a b=(b-a+1).toNat:=rfl;unfold Fdj;rw [show(a,([]:List (List Str)),(eH r l).phases,(eH r l).tracks,(eH r l).moves,(eH r l).rules,(eH r l).possible)=(a+((0:Nat):Int),([]:List (List Str)),(eH r l).phases,(eH r l).tracks,(eH r l).moves,(eH r l).rules,(eH r l).possible)by simp];refine dK (β:=List (List Str)) (γ:=Int×List (List Str)×List Str×Int×List fK×List Nd×List Bool) (λi=>(a+(i:Int),(List.range i).map (aMe r l a),(runT (tel l a) (eH r l) i).2.phases,(runT (tel l a) (eH r l) i).2.tracks,(runT (tel l a) (eH r l) i).2.moves,(runT (tel l a) (eH r l) i).2.rules,(runT (tel l a) (eH r l) i).2.possible)) (List.replicate (spn a b) ()) (some (evP r l a b)) (by simp;omega) (λk i _ _ hi=>?_) (λk=>?_)
 ·rw [List.length_replicate]at hi;obtain⟨f1,f2,f3⟩:=aWc h (a:=a) i s1 (by omega);have a24:Fcs (nxt (tel l a i) (runT (tel l a) (eH r l) i).2).1 (aMe r l a i) ((List.range i).map (aMe r l a))=some ((List.range (i+1)).map (aMe r l a)):=by
   unfold Fcs app';simp only [zG];rw [if_pos ⟨by rw [maxLen_eq];simp;omega,by simp;omega⟩,zC,List.range_succ,List.map_append];rfl
  simp only [zG];rw [dT (by omega:a+(i:Int)<=b),zT,f1,zC];show gB (Fa2 (runT (tel l a) (eH r l) i).2 (tel l a i)) _=_;rw [f2,zC];show gB (Fax (nxt (tel l a i) (runT (tel l a) (eH r l) i).2).2) _=_;rw [f3,zC];show gB (Fcs (nxt (tel l a i) (runT (tel l a) (eH r l) i).2).1 (aMe r l a i) ((List.range i).map (aMe r l a))) _=_;rw [a24,zC,wrap_i64 (by omega) (by omega)];rw [show a+(i:Int)+1=a+((i+1:Nat):Int)by omega];rfl
 ·rw [List.length_replicate];simp only [zG];rw [qD (by omega: ¬a+((spn a b:Nat):Int)<=b),zM];rfl
theorem aZo (a b:Int) (K:Bool->Option (Int×List (List Str))):(gB (gI (decide (a<0)) λc=>gB (gU c (some true) (gI (decide (b<a)) λd=>some d)) λe=>gU e (some true) (gI (decide (4194304<=b)) λh=>some h)) K)=K (decide (a<0\/b<a\/4194304<=b)):=by
 simp only [zG];by_cases j:a<0;rw [dT j,dT (Or.inl j)];rfl;rw [qD j];by_cases k:b<a;rw [dT k,dT (Or.inr (Or.inl k))];rfl;rw [qD k];by_cases n:4194304<=b;rw [dT n,dT (Or.inr (Or.inr n))];rfl;rw [qD n,qD (by omega)];rfl
theorem Phases_eq {r:Rules}{l:List gZ} (o:okR r) (p:okL pI l) {a b:Int} (_:i64 a) (_:i64 b):Fd5 r l a b=some (if evE r l a b=0 then(evP r l a b,0)else([],evE r l a b)):=by
 unfold Fd5;have k: ∃z,Fes r l a b []=some (evE r l a b,z)/\(evE r l a b=0->z=evP r l a b):=by
  unfold Fes;rw [aEu o p,zC];simp only [zG];unfold evE
  by_cases z:aBn r l=0
  ·have g:=aQu o z;rw [qD (by simpa using z),zM,if_neg (by simpa using z)];have sb:=aZo a b (λn=>gU n (some (9,[])) (gU (decide (20000<IntKind.i64.wrap (IntKind.i64.wrap (b-a)+1))) (some (3,[])) (gB (Fbk r l) λe=>gB (Fdj l b (a,[],e.phases,e.tracks,e.moves,e.rules,e.possible)) λj=>some (0,j))));simp only [zG]at sb;rw [sb];unfold vV
   by_cases c:a<0\/b<a\/4194304<=b
   ·rw [dT c,zT,if_pos c];exact⟨_,rfl,λh=>absurd h (by decide)⟩
   ·rw [qD c,zM,if_neg c,aQt (by omega)]
    by_cases d:20000<b-a+1
    ·rw [dT d,zT,if_pos d];exact⟨_,rfl,λh=>absurd h (by decide)⟩
    ·rw [qD d,zM,if_neg d,aIi g,zC,evalP_ok g (by unfold vV;rw [if_neg c,if_neg d]),zC];exact⟨_,rfl,λ_=>rfl⟩
  ·rw [dT (by simpa using z),zT,if_pos (by simpa using z)];exact⟨_,rfl,λh=>absurd h z⟩
 obtain⟨z,q,s⟩:=k;rw [q,zC];simp only [zG]
 by_cases c:evE r l a b=0
 ·rw [s c,c,if_pos rfl];rfl
 ·rw [dT (by simpa using c),zT,if_neg c]
theorem bAq {r:Rules}{l:List gZ}(d:okR r){a b:Int}(h:evE r l a b=0):GB r l/\vV a b=0:=by
 unfold evE at h;split at h;rename_i c;exact absurd h c;rename_i c;exact⟨aQu d (by simpa using c),h⟩
theorem aWl (s:Series) (t:Int) (d:Asc s.Samples) (w:s.Samples.length<=20000):
  Ffj s t (0,(s.Samples.length:Int))=some (kLe s.Samples t:Int):=by
 unfold Ffj fG;refine bAb (kLe s.Samples t) s.Samples.length _ ?_ ?_ s.Samples.length 0 s.Samples.length FU (by omega) (Nat.zero_le _) (aAt _ _) (Nat.le_refl _) (jJ (by omega))
 ·intro k lo hi e j _ _;obtain⟨_,b⟩:=mid_ok e j;have o:IntKind.i64.wrap ((lo:Int)+(hi:Int))=((lo+hi:Nat):Int):=by rw [Go.OB.wrap_i64 (by omega) (by omega)];omega
  have p:quo' .i64 ((lo+hi:Nat):Int) 2=some (((lo+hi)/2:Nat):Int):=by
   unfold quo';rw [if_neg (by omega),Int.tdiv_eq_ediv_of_nonneg (by omega),Go.OB.wrap_i64 (by omega) (by omega)]
   congr 1
  have u:IntKind.i64.wrap ((((lo+hi)/2:Nat):Int)+1)=(((lo+hi)/2+1:Nat):Int):=fQ (n:=20000) (by omega) (by omega);simp only [zG,dT (show(lo:Int)<(hi:Int)by omega),zT,o,p,zC,qF,b,u,xE];have q:=aFd d t b
  by_cases c:(lo+hi)/2<kLe s.Samples t
  ·rw [if_pos c,if_pos (q.2 c)]
  ·rw [if_neg c,if_neg (λh=>c (q.1 h))]
 ·intro k;simp only [zG,qD (show¬((kLe s.Samples t:Int)<(kLe s.Samples t:Int))by omega),zM]
theorem rHeld_eq (s:Series)(t g:Int)(c:Asc s.Samples)(d:s.Samples.length<=20000):Fdn s t g=some (hld s t g):=by
 unfold Fdn hld;have h:=aAt (λx:eU=>decide (x.At<=t)) s.Samples;change kLe s.Samples t<=_ at h;simp only [zG,aWl s t c d,zC];generalize kLe s.Samples t=n at *
 cases n with
 |zero=>rfl
 |succ n=>
  obtain⟨x,j⟩: ∃x,s.Samples[n]? =some x:=⟨_,gE (by omega)⟩;have e:IntKind.i64.wrap (((n+1:Nat):Int)-1)=(n:Int):=by rw [Go.OB.wrap_i64 (by omega) (by omega)];omega
  simp only [qD (show¬(((n+1:Nat):Int)=0)by omega),zM,e,qF,j,zC,Ff0,zG];generalize decide (3<=x.Mark)=a;generalize decide (g<IntKind.i64.wrap (t-x.At))=b
  cases a<;>cases b<;>rfl
theorem aXh (l:List gZ) (n:Int) (h:TK l) (c:0<=n) (d:n<=4194303):Fa1 l n=some (l.map (inT n)):=by
 obtain⟨_,e⟩:=aMq h;unfold Fa1 Fi0;simp only [zG];rw [show(([]:List fD),(0:Int))=(λ(i:Nat)=>((l.take i).map (inT n),(i:Int))) 0 by simp];rw [dK (λ(i:Nat)=>((l.take i).map (inT n),(i:Int))) l (some (l.map (inT n))) (by omega) ?_ ?_];rfl;intro k i x b hi;obtain⟨g1,g2,g3⟩:=e i x b;simp only [bAh c d];rw [yR hi,zT,yM b,zC,zC,rHeld_eq _ _ _ g1 g2,zC];rw [apT _ _ (by simp;omega),zC,fQ hi (by omega),pY b,List.map_append];rfl;intro k;rw [yS,zM,List.take_length]
theorem tel_I {l:List gZ} (h:TK l) (a:Int):FrI l (tel l a):=by
 refine⟨λt=>aSj l a t,λt _ b=>?_⟩;unfold tel at b;obtain⟨y,d,rfl⟩:=List.mem_map.1 b;obtain⟨i,hi⟩:=List.getElem?_of_mem d;have e:=((aZt y.Series).1 (h.s i y hi)).2.2;show _<=(hld y.Series _ y.Long).1.N/\(hld y.Series _ y.Long).1.N<=_;unfold hld;split;exact⟨by decide,by decide⟩;rename_i n _;split;rename_i z j;split;exact⟨by decide,by decide⟩;have q:=e n z j;unfold aQf at q;split at q;exact absurd q (by decide);rename_i c;simp only [Bool.or_eq_true,Bool.not_eq_true',Bool.and_eq_false_iff,decide_eq_false_iff_not]at c;show _<=z.N/\z.N<=_;omega;exact⟨by decide,by decide⟩
theorem mk_cols (m:Nat)(h:m<=2000000):make' 24 (m:Int) ([]:List Int)=some (cols m []):=by
 unfold make';rw [if_pos ⟨by omega,by omega,by omega⟩,Int.toNat_natCast];unfold cols;congr 1;apply List.ext_getElem?;intro i;rw [List.getElem?_replicate,List.getElem?_map];by_cases c:i<m;rw [if_pos c,List.getElem?_range c];rfl;rw [if_neg c,List.getElem?_eq_none (by simp;omega)];rfl
section
variable {r:Rules}{l:List gZ}
theorem truths_L2 (h:GB r l) {v:gG} (rows:List (List Int)) (ts:List Int) (q:rows.length<=100000) (d:ts.length=r.Rules.length)
  (e: ∀(j:Nat) y,r.Rules[j]? =some y-> ∃k x,at' v.rules (j:Int)=some k/\at' v.nodes k=some x/\at' ts (j:Int)=some x.now):
  Fd0 r v (0,cols r.Rules.length rows)=some (v.r.Phases,v.r.Moves,v.r.Rules,v.names,v.dens,v.told,v.frames,v.phase,v.nodes,v.first,v.moves,v.rules,cols r.Rules.length (rows++[ts])):=by
 have hm:=h.g.l;unfold Fd0;have n: ∀i,i<r.Rules.length->(cols r.Rules.length (rows++[ts])).take i++(cols r.Rules.length rows).drop i=(cols r.Rules.length (rows++[ts])).take i++(rows.map λrow=>row.getD i 0)::(cols r.Rules.length rows).drop (i+1):=λi hi=>by
  rw [List.drop_eq_getElem_cons (by rw [nP];exact hi)];have:=aCg (rows:=rows) hi;rw [gE (by rw [nP];exact hi)]at this;rw [oI this]
 refine(dK (λ(i:Nat)=>((i:Int),(cols r.Rules.length (rows++[ts])).take i++(cols r.Rules.length rows).drop i)) r.Rules (some (v.r.Phases,v.r.Moves,v.r.Rules,v.names,v.dens,v.told,v.frames,v.phase,v.nodes,v.first,v.moves,v.rules,cols r.Rules.length (rows++[ts]))) (by omega) ?_ ?_)
 ·intro k i y o hi;obtain⟨_,x,v1,v2,v3⟩:=e i y o;have b:((cols r.Rules.length (rows++[ts])).take i).length=i:=by rw [List.length_take,nP];omega
  rw [qF]at v3;have c:ts.getD i 0=x.now:=by rw [List.getD_eq_getElem?_getD,v3];rfl
  have p:(cols r.Rules.length (rows++[ts]))[i]? =some ((rows.map λrow=>row.getD i 0)++[x.now]):=by
   rw [aCg (by omega),List.map_append,List.map_singleton,c]
  simp only [zG];rw [yR hi,zT,n i (by omega),aGr _ _ _ i b];simp only [zC];rw [v1,zC,v2,zC,ap8 (by rw [List.length_map];omega),zC,aGk _ _ _ _ i b,zC,fQ hi (by omega),pY p,List.append_assoc];rfl
 ·intro k;simp only [zG];rw [yS,zM,List.take_of_length_le (by rw [nP];exact Nat.le_refl _),List.drop_eq_nil_of_le (by rw [nP];exact Nat.le_refl _),List.append_nil]
theorem aHy (h:GB r l){a:Int}(k:Nat)(b:0<=a)(c:a+k<=4194303):Fa1 l (a+(k:Int))=some (tel l a k):=aXh l _ h.t (by omega) (by omega)
theorem truths_L1 (h:GB r l){a b:Int}(M:vV a b=0):Fe6 r l b (a,(ev0 r l).r.Phases,(ev0 r l).r.Moves,(ev0 r l).r.Rules,(ev0 r l).names,(ev0 r l).dens,(ev0 r l).told,(ev0 r l).frames,(ev0 r l).phase,(ev0 r l).nodes,(ev0 r l).first,(ev0 r l).moves,(ev0 r l).rules,cols r.Rules.length [])=some (evV r l a b):=by
 obtain⟨s1,_,_,_⟩:=aCu M;have N:=tel_I h.t a;have hn:spn a b=(b-a+1).toNat:=rfl;unfold Fe6;have q:=bK (body:=λc (s:Int×(List Str)×(List dE)×(List Rule)×(List Str)×(List Int)×(List fD)×Int×(List Bool)×(List gJ)×Int×(List Int)×(List Int)×(List (List Int)))=>
   gI (decide (s.1<=b)) λd=>
   gU d
   (gB (gB (Fa1 l s.1) λe=>
   gB (Faq (gG.mk (Rules.mk s.2.1 s.2.2.1 s.2.2.2.1) s.2.2.2.2.1 s.2.2.2.2.2.1 s.2.2.2.2.2.2.1 s.2.2.2.2.2.2.2.1 s.2.2.2.2.2.2.2.2.1 s.2.2.2.2.2.2.2.2.2.1 s.2.2.2.2.2.2.2.2.2.2.1 s.2.2.2.2.2.2.2.2.2.2.2.1 s.2.2.2.2.2.2.2.2.2.2.2.2.1) e) λj=>
   Fd0 r j (0,s.2.2.2.2.2.2.2.2.2.2.2.2.2)) λ⟨k,n,o,p,w,x,y,A,B,C,D,E,F⟩=>
   gI (IntKind.i64.wrap (s.1+1)) λG=>
   c (G,k,n,o,p,w,x,y,A,B,C,D,E,F))
   (some s.2.2.2.2.2.2.2.2.2.2.2.2.2))
  (λ(i:Nat) (s:gG×List (List Int))=>(a+(i:Int),s.1.r.Phases,s.1.r.Moves,s.1.r.Rules,s.1.names,s.1.dens,s.1.told,s.1.frames,s.1.phase,s.1.nodes,s.1.first,s.1.moves,s.1.rules,s.2)) (List.replicate (spn a b) ())
  (λi s=>EvI r l (tel l a) i s.1/\s.2=cols r.Rules.length (runT (tel l a) (eH r l) i).1) (λz=>z=evV r l a b) (by rw [List.length_replicate];omega)
  (λO i s _ P _ H=>by
   have Q:=aJi P;obtain⟨R,i2⟩:=H;obtain⟨I,S,T,_,_,X⟩:=next_6 h N R (by omega);have J:((EnW (tel l a) (eH r l)).rl i).length=r.Rules.length:=by
    show(nxt (tel l a i) (runT (tel l a) (eH r l) i).2).1.length=_;rw [(aGd _ _).1,aXv]
   have t2:=truths_L2 h (v:=I) (runT (tel l a) (eH r l) i).1 ((EnW (tel l a) (eH r l)).rl i) (by rw [aFu];omega) J X;refine⟨(I,cols r.Rules.length (runT (tel l a) (eH r l) (i+1)).1),⟨T,rfl⟩,?_⟩;simp only [zG];rw [dT (by omega:a+(i:Int)<=b),zT,aHy h i s1 (by omega),zC];have K:Faq (gG.mk (Rules.mk s.1.r.Phases s.1.r.Moves s.1.r.Rules) s.1.names s.1.dens s.1.told s.1.frames s.1.phase s.1.nodes s.1.first s.1.moves s.1.rules) (tel l a i)=some I:=S;rw [K,zC,i2,t2,zC,wrap_i64 (by omega) (by omega),show a+(i:Int)+1=a+((i+1:Nat):Int)by omega];rfl)
  (λO s H=>by
   rw [List.length_replicate]at H⊢;simp only [zG];rw [qD (by omega: ¬a+((spn a b:Nat):Int)<=b),zM];exact⟨_,rfl,H.2⟩) (ev0 r l,cols r.Rules.length []) ⟨aTf h _,rfl⟩
 obtain⟨z,L,Y⟩:=q;rw [Y]at L;rw [show(a,(ev0 r l).r.Phases,(ev0 r l).r.Moves,(ev0 r l).r.Rules,(ev0 r l).names,(ev0 r l).dens,(ev0 r l).told,(ev0 r l).frames,(ev0 r l).phase,(ev0 r l).nodes,(ev0 r l).first,(ev0 r l).moves,(ev0 r l).rules,cols r.Rules.length ([]:List (List Int)))=(a+((0:Nat):Int),(ev0 r l).r.Phases,(ev0 r l).r.Moves,(ev0 r l).r.Rules,(ev0 r l).names,(ev0 r l).dens,(ev0 r l).told,(ev0 r l).frames,(ev0 r l).phase,(ev0 r l).nodes,(ev0 r l).first,(ev0 r l).moves,(ev0 r l).rules,cols r.Rules.length ([]:List (List Int)))by simp];exact L
theorem Truths_eq (h:GB r l){a b:Int}(c:vV a b=0):Fek r l a b=some (evV r l a b):=by
 unfold Fek;simp only [zG];rw [aTg h,zC,mk_cols _ (by have:=h.g.l;omega),zC,truths_L1 h c,zC]
end
theorem lacks_L2 (ns:List Str) (l:List gZ) (b:l.length<=9223372036854775807) {i:Nat}{s:Str} (e:ns[i]? =some s):Fg0 ns l (i:Int) (false,0)=some (l.any λt=>decide (t.Name=s)):=by
 unfold Fg0;refine(dK (λ(k:Nat)=>((l.take k).any (λt=>decide (t.Name=s)),(k:Int))) l _ b ?_ ?_);intro h k x c d;have j:l.take (k+1)=l.take k++[x]:=by rw [List.take_add_one,c];rfl
 simp only [zG];rw [yR d,zT,yM c,j,List.any_append,fQ d b];cases(l.take k).any (λt=>decide (t.Name=s));rw [zM,zC,yM e,zC,zC,Bool.false_or];simp;rw [zT,zC,Bool.true_or];intro h;simp only [zG];rw [yS,zM,List.take_length]
theorem lacks_eq (ns:List Str) (l:List gZ) (c:ns.length<=9223372036854775807) (d:l.length<=9223372036854775807):Fd9 ns l=some (if ns.all (λs=>l.any λt=>decide (t.Name=s))=true then 0 else 4):=by
 unfold Fd9;simp only [xK];unfold Fii;rw [xA ns (λ_ s=>if (l.any λt=>decide (t.Name=s))=true then none else some (some 4)) (some 0) c ?_ ?_]
 ·have b: ∀(ls:List Str) (i:Nat),dZ (λ_ s=>if (l.any λt=>decide (t.Name=s))=true then none else some (some (4:Int))) (some 0) ls i=some (if ls.all (λs=>l.any λt=>decide (t.Name=s))=true then 0 else 4):=by
   intro ls
   induction ls with
   |nil=>intro i;rfl
   |cons s ls e=>
    intro i;rw [dZ,List.all_cons]
    cases(l.any λt=>decide (t.Name=s))
    ·rfl
    ·simpa using e (i+1)
  rw [b]
 ·intro h i x j hi;simp only [zG,xK];rw [yR hi,zT,lacks_L2 ns l d j,zC,fQ hi c]
  cases(l.any λt=>decide (t.Name=x))<;>rfl
 ·intro h;simp only [zG];rw [yS,zM]
theorem aNp {r:Rules}{l:List gZ} (b:okR r) (c:okL pI l):Fen r l=some (aBn r l):=by
 obtain⟨e,d⟩:=aKp r;unfold Fen aBn;rw [rCheck_eq r b,d,zC];simp only [zG,Option.getD_some,xE];by_cases z:e=0;subst z;have g:=aMd b d;rw [if_neg (by simp),if_neg (by simp),aIj l c,aPt,zC];by_cases y:aMv l=0;have j:=aVl g;have h:Fcp r=some (aUb r):=aWn g;rw [if_neg (by simpa using y),if_neg (by simpa using y),h,zC,lacks_eq _ _ (by omega) c.1,zC];rw [if_pos y,if_pos y];rw [if_pos z,if_pos z]
theorem aSz {r:Rules}{l:List gZ} (e:okR r) (h:okL pI l) (a b:Int):Fb6 r l a b=some (evE r l a b):=by
 unfold Fb6 evE;rw [aNp e h,zC];simp only [zG];by_cases z:aBn r l=0;rw [qD (by simpa using z),zM,if_neg (by simpa using z)];unfold vV;by_cases a0:a<0;rw [dT a0,zT,zC,zT,zC,zT,if_pos (.inl a0)];rw [qD a0,zM,zC];by_cases c:b<a;rw [dT c,zT,zC,zT,if_pos (.inr (.inl c))];rw [qD c,zM,zC];by_cases c0:4194303<b;rw [dT c0,zT,if_pos (.inr (.inr (by omega)))];rw [qD c0,zM,if_neg (by omega),aQt (by omega)];by_cases d:20000<b-a+1;rw [dT d,zT,if_pos d];rw [qD d,zM,if_neg d];rw [dT (by simpa using z),zT,if_pos (by simpa using z)]
theorem named_eq6 {v:gG}{ss:List Str} (bs:List Bool) (k:v.r.Phases=ss) (h:bs.length=ss.length) (q:ss.length<=20):Fbw v bs=some (phL bs ss):=by
 have c:Ffu v bs ([],0)=some (phL bs ss):=by
  unfold Ffu;have n:(([]:List Str),(0:Int))=(λ(i:Nat)=>(phL (bs.take i) (ss.take i),(i:Int))) 0:=by
   show _=(phL (bs.take 0) (ss.take 0),((0:Nat):Int));rw [List.take_zero,List.take_zero];rfl
  rw [n];refine dK (λ(i:Nat)=>(phL (bs.take i) (ss.take i),(i:Int))) bs _ (by omega) ?_ ?_
  ·intro o i b d hi;obtain⟨s,e⟩: ∃s,ss[i]? =some s:=⟨_,gE (by omega)⟩;have t1:bs.take (i+1)=bs.take i++[b]:=pY d;have t2:ss.take (i+1)=ss.take i++[s]:=pY e;have j:=aEv (bs.take i) (ss.take i);have p:(ss.take i).length<=20:=by rw [List.length_take];omega
   simp only [zG];rw [yR hi,zT,yM d,zC,fQ hi (by omega),t1,t2,aEx b s _ _ (by rw [List.length_take,List.length_take,h])]
   cases b
   ·rw [zM,zC,if_neg (by decide),List.append_nil]
   ·rw [zT,k,yM e,zC,ap16x _ _ (by omega),zC,zC,if_pos rfl]
  ·intro o;simp only [zG];rw [yS,zM,List.take_length,List.take_of_length_le (by omega)]
 unfold Fbw;rw [c,zC]
theorem ap24x {b:Type}(l:List b)(x:b)(h:l.length<=1000000):app' 24 l [x]=some (l++[x]):=by
 unfold app';rw [if_pos];constructor;simp [maxLen];omega;simp;omega
section
variable {r:Rules}{l:List gZ}
theorem phases_L1 (h:GB r l){a b:Int}(H:vV a b=0):Ffs l b ([],a,(ev0 r l).r.Phases,(ev0 r l).r.Moves,(ev0 r l).r.Rules,(ev0 r l).names,(ev0 r l).dens,(ev0 r l).told,(ev0 r l).frames,(ev0 r l).phase,(ev0 r l).nodes,(ev0 r l).first,(ev0 r l).moves,(ev0 r l).rules)=some (evP r l a b):=by
 obtain⟨s1,_,_,_⟩:=aCu H;have D:=tel_I h.t a;have Q:spn a b=(b-a+1).toNat:=rfl;unfold Ffs;have q:=bK (body:=λk (s:(List (List Str))×Int×(List Str)×(List dE)×(List Rule)×(List Str)×(List Int)×(List fD)×Int×(List Bool)×(List gJ)×Int×(List Int)×(List Int))=>
   gI (decide (s.2.1<=b)) λn=>
   gU n
   (gB (Fa1 l s.2.1) λo=>
   gB (Faq (gG.mk (Rules.mk s.2.2.1 s.2.2.2.1 s.2.2.2.2.1) s.2.2.2.2.2.1 s.2.2.2.2.2.2.1 s.2.2.2.2.2.2.2.1 s.2.2.2.2.2.2.2.2.1 s.2.2.2.2.2.2.2.2.2.1 s.2.2.2.2.2.2.2.2.2.2.1 s.2.2.2.2.2.2.2.2.2.2.2.1 s.2.2.2.2.2.2.2.2.2.2.2.2.1 s.2.2.2.2.2.2.2.2.2.2.2.2.2) o) λc=>
   gB (Fbw (gG.mk (Rules.mk c.r.Phases c.r.Moves c.r.Rules) c.names c.dens c.told c.frames c.phase c.nodes c.first c.moves c.rules) c.phase) λj=>
   gI ([j]:List (List Str)) λ_=>
   gB (app' 24 s.1 ([j]:List (List Str))) λw=>
   gI (IntKind.i64.wrap (s.2.1+1)) λx=>
   k (w,x,c.r.Phases,c.r.Moves,c.r.Rules,c.names,c.dens,c.told,c.frames,c.phase,c.nodes,c.first,c.moves,c.rules))
   (some s.1))
  (λ(i:Nat) (s:gG×List (List Str))=>(s.2,a+(i:Int),s.1.r.Phases,s.1.r.Moves,s.1.r.Rules,s.1.names,s.1.dens,s.1.told,s.1.frames,s.1.phase,s.1.nodes,s.1.first,s.1.moves,s.1.rules)) (List.replicate (spn a b) ())
  (λi s=>EvI r l (tel l a) i s.1/\s.2=(List.range i).map (aMe r l a)) (λz=>z=evP r l a b) (by rw [List.length_replicate];omega)
  (λI i s _ J _ y=>by
   have K:=aJi J;obtain⟨L,i2⟩:=y;obtain⟨d,M,E,F,_,_⟩:=next_6 h D L (by omega);have A:d.phase.length=r.Phases.length:=by rw [F];exact aSi h D i
   have nm:=named_eq6 (v:=d) (ss:=r.Phases) d.phase (by rw [E.rs]) A h.g.p;have B:Fbw (gG.mk (Rules.mk d.r.Phases d.r.Moves d.r.Rules) d.names d.dens d.told d.frames d.phase d.nodes d.first d.moves d.rules) d.phase=some (phL d.phase r.Phases):=nm;have ph:phL d.phase r.Phases=aMe r l a i:=by
    rw [F];unfold aMe;rw [aQc];rfl
   refine⟨(d,(List.range (i+1)).map (aMe r l a)),⟨E,rfl⟩,?_⟩;simp only [zG];rw [dT (by omega:a+(i:Int)<=b),zT,aHy h i s1 (by omega),zC];have C:Faq (gG.mk (Rules.mk s.1.r.Phases s.1.r.Moves s.1.r.Rules) s.1.names s.1.dens s.1.told s.1.frames s.1.phase s.1.nodes s.1.first s.1.moves s.1.rules) (tel l a i)=some d:=M;rw [C,zC,B,zC,i2,ap24x _ _ (by rw [List.length_map,List.length_range];omega),zC,wrap_i64 (by omega) (by omega),show a+(i:Int)+1=a+((i+1:Nat):Int)by omega,ph,List.range_succ,List.map_append];rfl)
  (λI s y=>by
   rw [List.length_replicate]at y⊢;simp only [zG];rw [qD (by omega: ¬a+((spn a b:Nat):Int)<=b),zM];exact⟨_,rfl,y.2⟩) (ev0 r l,[]) ⟨aTf h _,rfl⟩
 obtain⟨z,G,N⟩:=q;rw [N]at G;have e:(([]:List (List Str)),a,(ev0 r l).r.Phases,(ev0 r l).r.Moves,(ev0 r l).r.Rules,(ev0 r l).names,(ev0 r l).dens,(ev0 r l).told,(ev0 r l).frames,(ev0 r l).phase,(ev0 r l).nodes,(ev0 r l).first,(ev0 r l).moves,(ev0 r l).rules)=(([]:List (List Str)),a+((0:Nat):Int),(ev0 r l).r.Phases,(ev0 r l).r.Moves,(ev0 r l).r.Rules,(ev0 r l).names,(ev0 r l).dens,(ev0 r l).told,(ev0 r l).frames,(ev0 r l).phase,(ev0 r l).nodes,(ev0 r l).first,(ev0 r l).moves,(ev0 r l).rules):=by simp
 rw [e];exact G
theorem aTe (h:GB r l){a b:Int}(c:vV a b=0):Fe0 r l a b=some (evP r l a b):=by
 unfold Fe0;rw [aTg h,zC,phases_L1 h c,zC]
theorem aXo {r:Rules}{l:List gZ} (c:okR r) (d:okL pI l) (a b:Int):Feu r l a b=some (if evE r l a b=0 then(evP r l a b,0)else([],evE r l a b)):=by
 unfold Feu;rw [aSz c d,zC];simp only [zG];by_cases z:evE r l a b=0;obtain⟨g,s⟩:=bAq c z;rw [qD (by simpa using z),zM,aTe g s,zC,if_pos z];rw [dT (by simpa using z),zT,if_neg z]
end
inductive aNc (a i:Int) (l:List Int):Nat->List fF->Prop
 |done {t:Nat} (h:l.length<=t):aNc a i l t []
 |skip {t:Nat}{es:List fF} (h:t<l.length) (h2:l[t]? ≠some 2) (k:aNc a i l (t+1) es):aNc a i l t es
 |run {t e:Nat}{es:List fF} (h:t<=e) (h2: ∀s,t<=s->s<=e->l[s]? =some 2) (h3:l[e+1]? ≠some 2) (k:aNc a i l (e+1) es):
   aNc a i l t (fF.mk i (a+(t:Int)) (a+(e:Int)) (decide (0<t/\l[t-1]? =some 1)) (decide (l[e+1]? =some 1))::es)
theorem run_end (l:List Int): ∀(d t:Nat),l.length-t<=d->l[t]? =some 2-> ∃e,t<=e/\(∀s,t<=s->s<=e->l[s]? =some 2)/\l[e+1]? ≠some 2
 |0,t,hd,h=>by have:=(gS.1 h).1;omega
 |d+1,t,hd,h=>by
  have o:=(gS.1 h).1
  by_cases c:l[t+1]? =some 2
  ·obtain⟨e,_,j,k⟩:=run_end l d (t+1) (by omega) c;refine⟨e,by omega,λs n b=>?_,k⟩
   by_cases q:s=t
   ·rw [q];exact h
   ·exact j s (by omega) b
  ·refine⟨t,Nat.le_refl _,λs n b=>?_,c⟩;have:s=t:=by omega
   rw [this];exact h
theorem aYa (a i:Int) (l:List Int): ∀(d t:Nat),l.length-t<=d-> ∃b,aNc a i l t b/\b.length<=l.length-t
 |0,t,hd=>⟨[],.done (by omega),Nat.zero_le _⟩
 |d+1,t,hd=>by
  by_cases c:l.length<=t
  ·exact⟨[],.done c,Nat.zero_le _⟩
  by_cases q:l[t]? =some 2
  ·obtain⟨e,j,k,n⟩:=run_end l l.length t (by omega) q;have p:=(gS.1 (k e j (Nat.le_refl _))).1;obtain⟨b,h,o⟩:=aYa a i l d (e+1) (by omega);exact⟨_,.run j k n h,by rw [List.length_cons];omega⟩
  ·obtain⟨b,h,o⟩:=aYa a i l d (t+1) (by omega);exact⟨b,.skip (by omega) q h,by omega⟩
theorem ap32x {b:Type}(l:List b)(x:b)(h:l.length<=100000000):app' 32 l [x]=some (l++[x]):=by
 unfold app';rw [if_pos];constructor;simp [maxLen];omega;simp;omega
def evP3 (c:List Int):(Int->Option Int)->Int->Option Int:=λd b=>
 gB (gI (IntKind.i64.wrap (b+1)) λe=>
 gI (c.length:Int) λh=>
 gI (decide (e<h)) λj=>
 gU j
 (gI (IntKind.i64.wrap (b+1)) λk=>
 gB (at' c k) λn=>
 gI (decide (n=2)) λo=>
 some o)
 (some false)) λp=>
 gU p
 (gI (IntKind.i64.wrap (b+1)) λq=>
 d q)
 (some b)
theorem bAr {l:List Int} (u:l.length<=1000000) {e:Nat} (p:l[e+1]? ≠some 2): ∀(d s m:Nat),s+d=e->d<m->(∀q,s<=q->q<=e->l[q]? =some 2)->dB (evP3 l) m (s:Int)=some (e:Int)
 |0,s,m,hd,hm,h=>by
  obtain⟨m,rfl⟩: ∃n,m=n+1:=⟨m-1,by omega⟩;have k:=(gS.1 (h s (Nat.le_refl _) (by omega))).1;have w:IntKind.i64.wrap ((s:Int)+1)=((s+1:Nat):Int):=fQ k (by omega);have b:s=e:=by omega
  rw [dB];unfold evP3;simp only [zG];rw [w]
  by_cases c:s+1<l.length
  ·obtain⟨x,j⟩: ∃x,l[s+1]? =some x:=⟨_,gE c⟩;have y:x≠2:=λq=>p (by rw [<-b,j,q])
   rw [dT (by omega),zT,yM j,zC,qD y,zC,zM,b]
  ·rw [qD (by omega),zM,zC,zM,b]
 |d+1,s,m,hd,hm,h=>by
  obtain⟨m,rfl⟩: ∃n,m=n+1:=⟨m-1,by omega⟩;have k:=(gS.1 (h s (Nat.le_refl _) (by omega))).1;have w:IntKind.i64.wrap ((s:Int)+1)=((s+1:Nat):Int):=fQ k (by omega);have j:=h (s+1) (by omega) (by omega);have z:=(gS.1 j).1;have o:=bAr u p d (s+1) m (by omega) (by omega) λq _ A=>h q (by omega) A
  rw [dB];unfold evP3 at o⊢;simp only [zG]at o⊢;rw [w,dT (by omega),zT,yM j,zC,dT rfl,zC,zT];exact o
def evP2 (N h:Int)(c:List Int):(List fF×Int->Option (List fF))->List fF×Int->Option (List fF):=λs ⟨e,b⟩=>
 gI (c.length:Int) λu=>
 gI (decide (b<u)) λw=>
 gU w
 (gB (gB (at' c b) λx=>
 gI (decide (x≠2)) λy=>
 gU y
 (some (e,b))
 (gB (gI (IntKind.i64.wrap (N+b)) λj=>
 gI (decide (0<b)) λz=>
 gU z
 (gI (IntKind.i64.wrap (b-1)) λA=>
 gB (at' c A) λB=>
 gI (decide (B=1)) λC=>
 some (j,C))
 (some (j,false))) λ⟨k,n⟩=>
 gB (Ffr c b) λd=>
 gB (gI (IntKind.i64.wrap (N+d)) λo=>
 gI (IntKind.i64.wrap (d+1)) λD=>
 gI (c.length:Int) λE=>
 gI (decide (D<E)) λF=>
 gU F
 (gI (IntKind.i64.wrap (d+1)) λG=>
 gB (at' c G) λH=>
 gI (decide (H=1)) λI=>
 some (o,I))
 (some (o,false))) λ⟨p,q⟩=>
 gI ([fF.mk h k p n q]:List fF) λ_=>
 gB (app' 32 e ([fF.mk h k p n q]:List fF)) λJ=>
 some (J,d))) λ⟨K,L⟩=>
 gI (IntKind.i64.wrap (L+1)) λM=>
 s (K,M))
 (some e)
theorem at_one {l:List Int}{s:Nat}{x:Int}(h:l[s]? =some x):decide (x=1)=decide (l[s]? =some 1):=by rw [h];simp
theorem at_no {l:List Int}{s:Nat}(h:l.length<=s):false=decide (l[s]? =some 1):=by rw [List.getElem?_eq_none h];simp
theorem evP_ok {a i:Int}{l:List Int} (T:0<=a/\a<=4194304) (M:l.length<=1000000) {t:Nat}{F:List fF} (k:aNc a i l t F): ∀(b:List fF) (m:Nat),l.length-t<m->b.length+F.length<=100000000->t<=l.length->dB (evP2 a i l) m (b,(t:Int))=some (b++F):=by
 induction k with
 | @done t h=>
  intro b m hm _ K;obtain⟨m,rfl⟩: ∃n,m=n+1:=⟨m-1,by omega⟩;rw [dB];show gI _ _=_;simp only [zG];rw [qD (by omega),zM,List.append_nil]
 | @skip t F h G _ I=>
  intro b m hm J K;obtain⟨m,rfl⟩: ∃n,m=n+1:=⟨m-1,by omega⟩;obtain⟨x,H⟩: ∃x,l[t]? =some x:=⟨_,gE h⟩;have N:x≠2:=λq=>G (by rw [H,q])
  rw [dB];show gI _ _=_;simp only [zG];rw [dT (by omega),zT,yM H,zC,dT N,zT,zC];dsimp only;rw [fQ h (by omega)];exact I b m (by omega) J (by omega)
 | @run t e F h G O _ I=>
  intro b m hm J K;obtain⟨m,rfl⟩: ∃n,m=n+1:=⟨m-1,by omega⟩;have H:=G t (Nat.le_refl _) h;have P:=G e h (Nat.le_refl _);have X:=(gS.1 H).1;have L:=(gS.1 P).1;have Q:Ffr l (t:Int)=some (e:Int):=by
   show fG (evP3 l) (t:Int)=_;unfold fG;exact bAr M O (e-t) t FU (by omega) (jJ (by omega)) G
  rw [List.length_cons]at J;have i2:=I (b++[fF.mk i (a+(t:Int)) (a+(e:Int)) (decide (0<t/\l[t-1]? =some 1)) (decide (l[e+1]? =some 1))]) m (by omega) (by rw [List.length_append,List.length_singleton];omega) (by omega);rw [List.append_assoc,List.singleton_append]at i2;have R:(gI (IntKind.i64.wrap (a+(t:Int))) λd=>gI (decide (0<(t:Int))) λp=>gU p (gI (IntKind.i64.wrap ((t:Int)-1)) λs=>gB (at' l s) λu=>gI (decide (u=1)) λy=>some (d,y)) (some (d,false)))=some (a+(t:Int),decide (0<t/\l[t-1]? =some 1)):=by
   simp only [zG];rw [wrap_i64 (n:=a+(t:Int)) (by omega) (by omega)]
   cases t with
   |zero=>
    have q:decide (0<0/\l[0-1]? =some 1)=false:=qD (λq=>absurd q.1 (Nat.lt_irrefl 0));rw [qD (by omega),zM,q]
   |succ t=>
    have w:IntKind.i64.wrap (((t+1:Nat):Int)-1)=(t:Int):=by rw [wrap_i64 (by omega) (by omega)];omega
    obtain⟨x,j⟩: ∃x,l[t]? =some x:=⟨_,gE (by omega)⟩;rw [dT (by omega),zT,w,yM j,zC,at_one j];simp
  have S:(gI (IntKind.i64.wrap (a+(e:Int))) λo=>gI (IntKind.i64.wrap ((e:Int)+1)) λz=>gI (l.length:Int) λA=>gI (decide (z<A)) λB=>gU B (gI (IntKind.i64.wrap ((e:Int)+1)) λC=>gB (at' l C) λD=>gI (decide (D=1)) λE=>some (o,E)) (some (o,false)))=some (a+(e:Int),decide (l[e+1]? =some 1)):=by
   simp only [zG];rw [wrap_i64 (n:=a+(e:Int)) (by omega) (by omega),fQ L (by omega)]
   by_cases c:e+1<l.length
   ·obtain⟨x,j⟩: ∃x,l[e+1]? =some x:=⟨_,gE c⟩;rw [dT (by omega),zT,yM j,zC,at_one j]
   ·rw [qD (by omega),zM,<-at_no (by omega)]
  rw [dB];unfold evP2 at i2⊢;dsimp only;rw [zG,zG,dT (by omega),zT,yM H,zC,zG,qD (by decide),zM,R,zC];dsimp only;rw [Q,zC,S,zC];dsimp only;rw [zG,ap32x _ _ (by omega),zC,zC];dsimp only;rw [zG,fQ L (by omega)];exact i2
def aMy (p0:List (List Int))(p1 c:Int):((List fF)×Int->Option (List fF))->(List fF)×Int->Option (List fF):=λs ⟨e,b⟩=>
 gB (at' p0 c) λu=>
 gI (u.length:Int) λw=>
 gI (decide (b<w)) λx=>
 gU x
 (gB (gB (at' p0 c) λy=>
 gB (at' y b) λz=>
 gI (decide (z≠2)) λA=>
 gU A
 (some e)
 (gB (gB (gI (decide (b=0)) λB=>
 gU B
 (some true)
 (gB (at' p0 c) λC=>
 gI (IntKind.i64.wrap (b-1)) λD=>
 gB (at' C D) λE=>
 gI (decide (E≠2)) λF=>
 some F)) λG=>
 gU G
 (gI (IntKind.i64.wrap (p1+b)) λh=>
 gI (decide (0<b)) λH=>
 gU H
 (gB (at' p0 c) λI=>
 gI (IntKind.i64.wrap (b-1)) λJ=>
 gB (at' I J) λK=>
 gI (decide (K=1)) λq=>
 gI ([fF.mk c h 0 q false]:List fF) λ_=>
 gB (app' 32 e ([fF.mk c h 0 q false]:List fF)) λL=>
 some L)
 (gI ([fF.mk c h 0 false false]:List fF) λ_=>
 gB (app' 32 e ([fF.mk c h 0 false false]:List fF)) λM=>
 some M))
 (some e)) λp=>
 gI (p.length:Int) λN=>
 gI (IntKind.i64.wrap (N-1)) λd=>
 gI (IntKind.i64.wrap (p1+b)) λO=>
 gB (at' p d) λj=>
 gB (set' p d (fF.mk j.Rule j.From O j.Begins j.Ends)) λk=>
 gI (IntKind.i64.wrap (b+1)) λP=>
 gB (at' p0 c) λQ=>
 gI (Q.length:Int) λR=>
 gI (decide (P<R)) λS=>
 gU S
 (gB (at' p0 c) λT=>
 gI (IntKind.i64.wrap (b+1)) λX=>
 gB (at' T X) λY=>
 gI (decide (Y=1)) λaa=>
 gB (at' k d) λn=>
 gB (set' k d (fF.mk n.Rule n.From n.To n.Begins aa)) λab=>
 some ab)
 (gB (at' k d) λo=>
 gB (set' k d (fF.mk o.Rule o.From o.To o.Begins false)) λac=>
 some ac))) λad=>
 gI (IntKind.i64.wrap (b+1)) λae=>
 s (ad,ae))
 (some e)
def aQw (D:List (List Int))(E n j:Int)(k:List fF):Option (List fF):=
 gI (k.length:Int) λo=>
 gI (IntKind.i64.wrap (o-1)) λb=>
 gI (IntKind.i64.wrap (E+j)) λp=>
 gB (at' k b) λc=>
 gB (set' k b (fF.mk c.Rule c.From p c.Begins c.Ends)) λd=>
 gI (IntKind.i64.wrap (j+1)) λq=>
 gB (at' D n) λs=>
 gI (s.length:Int) λu=>
 gI (decide (q<u)) λw=>
 gU w
 (gB (at' D n) λx=>
 gI (IntKind.i64.wrap (j+1)) λy=>
 gB (at' x y) λz=>
 gI (decide (z=1)) λA=>
 gB (at' d b) λe=>
 gB (set' d b (fF.mk e.Rule e.From e.To e.Begins A)) λB=>
 some B)
 (gB (at' d b) λh=>
 gB (set' d b (fF.mk h.Rule h.From h.To h.Begins false)) λC=>
 some C)
section
variable {a:Int}{ls:List (List Int)}{l:List Int}{i:Nat}
theorem aNy (k:0<=a/\a<=4194304) (o:l.length<=1000000) (e:ls[i]? =some l) {t:Nat} (h:t<l.length) (b:List fF) (x:fF) (p:b.length<=100000000):
  aQw ls a (i:Int) (t:Int) (b++[x])=some (b++[fF.mk x.Rule x.From (a+(t:Int)) x.Begins (decide (l[t+1]? =some 1))]):=by
 have j:IntKind.i64.wrap (((b++[x]).length:Int)-1)=(b.length:Int):=by
  rw [List.length_append,List.length_singleton,wrap_i64 (by omega) (by omega)];omega
 have s: ∀y z:fF,set' (b++[y]) (b.length:Int) z=some (b++[z]):=λy z=>aGk b y z [] b.length rfl
 have g: ∀y:fF,at' (b++[y]) (b.length:Int)=some y:=λy=>aGr b y [] b.length rfl
 unfold aQw;simp only [zG];rw [j,g,zC,s,zC,fQ h (by omega),wrap_i64 (n:=a+(t:Int)) (by omega) (by omega),yM e,zC,g,zC]
 by_cases c:t+1<l.length
 ·obtain⟨y,d⟩: ∃y,l[t+1]? =some y:=⟨_,gE c⟩;rw [dT (by omega),zT,yM d,zC,zC,s,zC,at_one d]
 ·rw [qD (by omega),zM,zC,s,zC,<-at_no (by omega)]
theorem aWb (k:0<=a/\a<=4194304)(o:l.length<=1000000)(c:ls[i]? =some l){e:Nat}(m0:Nat)(j b:List fF)(z:b.length<90000000)(p: ∀(y:fF) (m:Nat),m0<m->dB (aMy ls a (i:Int)) m (b++[y],((e+1:Nat):Int))=some (b++[y]++j)):
  ∀(d t:Nat) (x:fF) (m:Nat),t+d=e->m0+d<m->(∀s,t<=s->s<=e->l[s]? =some 2)->dB (aMy ls a (i:Int)) m (b++[fF.mk x.Rule x.From (a+(t:Int)) x.Begins (decide (l[t+1]? =some 1))],((t+1:Nat):Int))=some (b++fF.mk x.Rule x.From (a+(e:Int)) x.Begins (decide (l[e+1]? =some 1))::j)
 |0,t,x,m,hd,hm,h=>by
  have:t=e:=by omega
  subst this;rw [p _ m (by omega),List.append_assoc,List.singleton_append]
 |d+1,t,x,m,hd,hm,h=>by
  obtain⟨m,rfl⟩: ∃n,m=n+1:=⟨m-1,by omega⟩;have q:=h (t+1) (by omega) (by omega);have A:=h t (by omega) (by omega);have u:=(gS.1 q).1;have i2:=aWb k o c m0 j b z p d (t+1) x m (by omega) (by omega) λs _ B=>h s (by omega) B
  have tk:=aNy k o c u b (fF.mk x.Rule x.From (a+(t:Int)) x.Begins (decide (l[t+1]? =some 1))) (by omega);have w:IntKind.i64.wrap (((t+1:Nat):Int)-1)=(t:Int):=by rw [wrap_i64 (by omega) (by omega)];omega
  unfold aQw at tk;rw [dB];generalize dB (aMy ls a (i:Int)) m=K at i2⊢;unfold aMy;dsimp only;rw [yM c,zC,zG,zG,dT (by omega),zT,zC,yM q,zC,zG,qD (by decide),zM,zG,qD (by omega),zM,zC,zG,w,yM A,zC,zG,zC,qD (by decide),zM,zC];rw [yM c]at tk;rw [tk,zC];dsimp only;rw [zG,fQ u (by omega)];exact i2
theorem evR_ok (C:0<=a/\a<=4194304)(D:l.length<=1000000)(c:ls[i]? =some l){t:Nat}{o:List fF}(k:aNc a (i:Int) l t o): ∀(b:List fF) (m:Nat),l.length-t<m->b.length+l.length<=80000000+t->t<=l.length->(0<t->l[t-1]? =some 2->l[t]? ≠some 2)->dB (aMy ls a (i:Int)) m (b,(t:Int))=some (b++o):=by
 induction k with
 | @done t h=>
  intro b m hm _ E _;obtain⟨m,rfl⟩: ∃n,m=n+1:=⟨m-1,by omega⟩;rw [dB];unfold aMy;dsimp only;rw [yM c,zC,zG,zG,qD (by omega),zM,List.append_nil]
 | @skip t o h j _ s=>
  intro b m hm F E _;obtain⟨m,rfl⟩: ∃n,m=n+1:=⟨m-1,by omega⟩;obtain⟨x,d⟩: ∃x,l[t]? =some x:=⟨_,gE h⟩;have G:x≠2:=λq=>j (by rw [d,q])
  have i2:=s b m (by omega) (by omega) (by omega) (λ_ q=>absurd q j);rw [dB];generalize dB (aMy ls a (i:Int)) m=K at i2⊢;unfold aMy;dsimp only;rw [yM c,zC,zG,zG,dT (by omega),zT,zC,yM d,zC,zG,dT G,zT,zC,zG,fQ h (by omega)];exact i2
 | @run t e o h j H _ s=>
  intro b m hm F E u;obtain⟨m,rfl⟩: ∃n,m=n+1:=⟨m-1,by omega⟩;have d:=j t (Nat.le_refl _) h;have I:=j e h (Nat.le_refl _);have A:=(gS.1 d).1;have L:=(gS.1 I).1;have i2:=aWb C D c (l.length-(e+1)) o b (by omega) (λy m' B=>s (b++[y]) m' B (by rw [List.length_append,List.length_singleton];omega) (by omega) (λ_ _=>H)) (e-t) t (fF.mk (i:Int) (a+(t:Int)) 0 (decide (0<t/\l[t-1]? =some 1)) false) m (by omega) (by omega) j;have tk:=aNy C D c A b (fF.mk (i:Int) (a+(t:Int)) 0 (decide (0<t/\l[t-1]? =some 1)) false) (by omega);unfold aQw at tk;rw [dB];generalize dB (aMy ls a (i:Int)) m=K at i2⊢;unfold aMy;dsimp only;rw [yM c]at tk
  cases t with
  |zero=>
   have q:decide (0<0/\l[0-1]? =some 1)=false:=qD (λq=>absurd q.1 (Nat.lt_irrefl 0));rw [q]at tk i2⊢;rw [wrap_i64 (n:=a+((0:Nat):Int)) (by omega) (by omega)]at tk;rw [yM c,zC,zG,zG,dT (by omega),zT,zC,yM d,zC,zG,qD (by decide),zM,zG,dT (by omega),zT,zC,zT,zG,zG,qD (by omega),zM,zG,wrap_i64 (n:=a+((0:Nat):Int)) (by omega) (by omega),ap32x _ _ (by omega),zC,zC,tk,zC];dsimp only;rw [zG,fQ A (by omega)];exact i2
  |succ t=>
   obtain⟨y,p⟩: ∃y,l[t]? =some y:=⟨_,gE (by omega)⟩;have J:y≠2:=λq=>u (by omega) (by show l[t]? =_;rw [p,q]) d
   have w:IntKind.i64.wrap (((t+1:Nat):Int)-1)=(t:Int):=by rw [wrap_i64 (by omega) (by omega)];omega
   have q:decide (0<t+1/\l[t+1-1]? =some 1)=decide (y=1):=by
    rw [at_one p];exact decide_eq_decide.2 ⟨λz=>z.2,λz=>⟨by omega,z⟩⟩
   rw [q]at tk i2⊢;rw [wrap_i64 (n:=a+((t+1:Nat):Int)) (by omega) (by omega)]at tk;rw [yM c,zC,zG,zG,dT (by omega),zT,zC,yM d,zC,zG,qD (by decide),zM,zG,qD (by omega),zM,zC,zG,w,yM p,zC,zG,zC,dT J,zT,zG,zG,dT (by omega),zT,zC,zG,yM p,zC,zG,zG,wrap_i64 (n:=a+((t+1:Nat):Int)) (by omega) (by omega),ap32x _ _ (by omega),zC,zC,tk,zC];dsimp only;rw [zG,fQ A (by omega)];exact i2
end
theorem evs_all {a:Int} (u:0<=a/\a<=4194304) (ls:List (List Int)) (y:ls.length<=1000) (e: ∀x∈ls,x.length<=20000): ∃E:List fF,Fgt a ls (ls.length:Int) ([],0)=some E/\Fdx ls a=some E/\E.length<=20000000:=by
 obtain⟨f,j⟩: ∃f:Nat->List fF,∀(i:Nat) l,ls[i]? =some l->aNc a (i:Int) l 0 (f i)/\(f i).length<=l.length:=by
  have q: ∀i:Nat,∃d:List fF,∀l,ls[i]? =some l->aNc a (i:Int) l 0 d/\d.length<=l.length:=by
   intro i
   cases h:ls[i]? with
   |none=>exact⟨[],λl b=>by cases b⟩
   |some l=>
    obtain⟨d,z,A⟩:=aYa a (i:Int) l l.length 0 (by omega);exact⟨d,λ_ b=>by obtain rfl:=oI b;exact⟨z,A⟩⟩
  exact⟨λi=>Classical.choose (q i),λi=>Classical.choose_spec (q i)⟩
 have n: ∀i:Nat,((List.range (i+1)).map f).flatten=((List.range i).map f).flatten++f i:=λi=>by
  rw [List.range_succ,List.map_append,List.flatten_append];simp
 have o: ∀i,i<=ls.length->(((List.range i).map f).flatten).length<=i*20000:=by
  intro i
  induction i with
  |zero=>intro _;simp
  |succ i B=>
   intro hi;obtain⟨l,b⟩: ∃l,ls[i]? =some l:=⟨_,gE (by omega)⟩;have q:=(j i l b).2;have w:=e l (qS b);have:=B (by omega);rw [n,List.length_append,Nat.succ_mul];omega
 refine⟨((List.range ls.length).map f).flatten,?_,?_,?_⟩
 ·unfold Fgt;have p:(([]:List fF),(0:Int))=(λ(i:Nat)=>(((List.range i).map f).flatten,(i:Int))) 0:=rfl;rw [p];refine dK (λ(i:Nat)=>(((List.range i).map f).flatten,(i:Int))) ls _ (by omega) ?_ ?_
  ·intro k i l b hi;have C:=o i (by omega);have q:=j i l b;have w:=e l (qS b);have c:i*20000<=1000*20000:=Nat.mul_le_mul_right _ (by omega);have r:Fh1 a (i:Int) l (((List.range i).map f).flatten,0)=some (((List.range i).map f).flatten++f i):=evP_ok u (by omega) q.1 _ FU (jJ (by omega)) (by omega) (Nat.zero_le _);simp only [zG];rw [yR hi,zT,yM b,zC,r,zC,fQ hi (by omega),n]
  ·intro k;simp only [zG];rw [yS,zM]
 ·have s:Ffi ls a ([],0)=some (((List.range ls.length).map f).flatten):=by
   unfold Ffi;have p:(([]:List fF),(0:Int))=(λ(i:Nat)=>(((List.range i).map f).flatten,(i:Int))) 0:=rfl;rw [p];refine dK (λ(i:Nat)=>(((List.range i).map f).flatten,(i:Int))) ls _ (by omega) ?_ ?_
   ·intro k i l b hi;have C:=o i (by omega);have q:=j i l b;have w:=e l (qS b);have c:i*20000<=1000*20000:=Nat.mul_le_mul_right _ (by omega);have r:Fg6 ls a (i:Int) (((List.range i).map f).flatten,0)=some (((List.range i).map f).flatten++f i):=evR_ok u (by omega) b q.1 _ FU (jJ (by omega)) (by omega) (Nat.zero_le _) (λh=>absurd h (Nat.lt_irrefl 0));simp only [zG];rw [yR hi,zT,r,zC,fQ hi (by omega),n]
   ·intro k;simp only [zG];rw [yS,zM]
  unfold Fdx;rw [s,zC]
 ·have:=o ls.length (Nat.le_refl _);have c:ls.length*20000<=1000*20000:=Nat.mul_le_mul_right _ y;omega
theorem evV_rows {r:Rules}{l:List gZ}{a b:Int}(d:okR r)(h:evE r l a b=0):(0<=a/\a<=4194304)/\(evV r l a b).length<=1000/\ ∀x∈evV r l a b,x.length<=20000:=by
 obtain⟨g,s⟩:=bAq d h;obtain⟨s1,_,_,_⟩:=aCu s;have n:spn a b=(b-a+1).toNat:=rfl;have o:=g.g.l;have l1:(evV r l a b).length=r.Rules.length:=nP _ _;refine⟨⟨s1,by omega⟩,by omega,λx e=>?_⟩;obtain⟨i,hi⟩:=List.getElem?_of_mem e;have c:i<r.Rules.length:=by rw [<-l1];exact(gS.1 hi).1
 unfold evV at hi;rw [aCg c]at hi;obtain rfl:=oI hi;rw [List.length_map,aFu];omega
theorem aUc {r:Rules}{l:List gZ} (c:okR r) (d:okL pI l) (e:r.Rules.length<=2000000) {a b:Int} (h:i64 a) (j:i64 b): ∃p:List fF×Int,Fc2 r l a b=some p/\Fej r l a b=some p/\p.1.length<=20000000:=by
 unfold Fc2 Fej;rw [aUf c d e h j,aSz c d,zC,zC];by_cases z:evE r l a b=0;obtain⟨g,s⟩:=bAq c z;obtain⟨k,n,o⟩:=evV_rows c z;obtain⟨E,q,u,w⟩:=evs_all k (evV r l a b) n o;refine⟨(E,0),?_,?_,w⟩;rw [if_pos z];simp only [zG];rw [qD (by decide),zM,q,zC];simp only [zG];rw [qD (by simpa using z),zM,Truths_eq g s,zC,u,zC];refine⟨([],evE r l a b),?_,?_,Nat.zero_le _⟩;rw [if_neg z];simp only [zG];rw [dT (by simpa using z),zT];simp only [zG];rw [dT (by simpa using z),zT]
theorem aMw (p:List Int)(x:Bool)(h:p.length+5<=140737488355328): ∃q,Fcx p x=some q/\q.length<=p.length+5:=by
 unfold Fcx Fe1
 cases x with
 |true=>rw [zT,app1 p _ (by simp [nums];omega),zC,zC];exact⟨_,rfl,by simp [nums]⟩
 |false=>rw [zM,app1 p _ (by simp [nums];omega),zC,zC];exact⟨_,rfl,by simp [nums]⟩
theorem ink_Bool (p:gQ)(x:Bool){b:Nat}(d:p.out.length<=b)(h:b<=100000000000000):Gr (Fed p x) (b+5):=by
 obtain⟨_,c,_⟩:=aMw p.out x (by omega);unfold Fed;rw [c,zC];exact Gr.some (by simp;omega)
theorem aXy (p:gQ) (x y:Bool) {b:Nat} (d:p.out.length<=b) (h:b+32<=100000000000000):Gr (Fdg p [x,y]) (b+32):=by
 unfold Fdg;simp only [zG];refine Gr.bind (vY _ _ d (by omega)) λq e=>?_
 have j: ∃z,Ffh [x,y] (0,q.out)=some z/\z.out.length<=b+32:=by
  unfold Ffh;refine bK (λ(i:Nat) (s:List Int)=>((i:Int),s)) [x,y] (λi s=>s.length<=b+22+i*5) (λ(r:gQ)=>r.out.length<=b+32) (by simp) ?_ ?_ _ (by simpa using e)
  ·intro k i s z n hi c;have o:i<=1:=by simp at hi;omega
   obtain⟨r,u,_⟩:=ink_Bool (gQ.mk s) z (b:=b+22+i*5) c (by omega);refine⟨r.out,by omega,?_⟩;simp only [zG];rw [yR hi,zT,yM n,zC,u,zC,fQ hi (by simp)]
  ·intro k s c;simp only [zG];rw [yS,zM];exact⟨_,rfl,by simpa using c⟩
 exact j
theorem events_ex (E:List fF) (e:Int) (h:E.length<=20000000): ∃t,Fct E e=some t:=by
 have c: ∃q,Fdr (gQ.mk []) E=some q/\q.out.length<=10000000000:=by
  unfold Fdr;simp only [zG];obtain⟨_,d,j⟩:=vY (gQ.mk []) (E.length:Int) (b:=0) (by simp) (by omega);rw [d,zC];unfold Fjd;refine bK (λ(i:Nat) (s:List Int)=>((i:Int),s)) E (λi s=>s.length<=22+i*200) (λ(r:gQ)=>r.out.length<=10000000000) (by omega) ?_ ?_ _ (by simpa using j)
  ·intro u i s x w hi n;obtain⟨r,k,o⟩:=ink_Ints (gQ.mk s) [x.Rule,x.From,x.To] (b:=22+i*200) n (by simp;omega);simp at o;obtain⟨y,z,_⟩:=aXy (gQ.mk r.out) x.Begins x.Ends (b:=22+i*200+88) (by show r.out.length<=_;omega) (by omega);refine⟨y.out,by omega,?_⟩;simp only [zG];rw [yR hi,zT,yM w,zC,zC,zC,k,zC,zC,zC,z,zC,fQ hi (by omega)]
  ·intro u s n;simp only [zG];rw [yS,zM];exact⟨_,rfl,by show s.length<=_;omega⟩
 obtain⟨q,d,j⟩:=c;obtain⟨_,k,o⟩:=vY q e j (by omega);unfold Fct;rw [d,zC];unfold Ffe Fbo;rw [k];exact⟨_,rfl⟩
theorem phs_L1 (P:List (List Str)) (c:List Int) (h:c.length<=22) (u:P.length<=20000) (j: ∀x∈P,x.length<=20/\ ∀s∈x,s.length<=30): ∃g,Fce P (0,c)=some g:=by
 have q: ∃g,Fce P (0,c)=some g/\True:=by
  unfold Fce;refine bK (λ(i:Nat) (s:List Int)=>((i:Int),s)) P (λi s=>s.length<=22+i*2000) (λ(_:List Int)=>True) (by omega) ?_ ?_ _ (by simpa using h)
  ·intro k i s x d hi e;obtain⟨_,n⟩:=j x (qS d);obtain⟨r,o,_⟩:=ink_Texts (gQ.mk s) x (b:=22+i*2000) n e (by omega);refine⟨r.out,by omega,?_⟩;simp only [zG];rw [yR hi,zT,yM d,zC,o,zC,fQ hi (by omega)]
  ·intro k s e;simp only [zG];rw [yS,zM];exact⟨_,rfl,trivial⟩
 obtain⟨g,p,-⟩:=q;exact⟨g,p⟩
theorem phs_L2 (P:List (List Str))(s:Int×List Int):Fhj P s=Fce P s:=rfl
theorem aXm (r:Rules) (l:List gZ) (a b:Int) (A:aPx r) (h:okL pI l) (n:i64 a) (o:i64 b) (B:r.Rules.length<=2000000):Ffq r l a b=some true:=by
 have d:okR r:=A;have c: ∀p:List (List Str)×Int,p=(if evE r l a b=0 then(evP r l a b,(0:Int))else([],evE r l a b))->p.1.length<=20000/\ ∀x∈p.1,x.length<=20/\ ∀s∈x,s.length<=30:=by
  intro p c
  by_cases z:evE r l a b=0
  ·obtain⟨g,s⟩:=bAq d z;obtain⟨_,_,_,_⟩:=aCu s;have C:spn a b=(b-a+1).toNat:=rfl;rw [if_pos z]at c;subst c;refine⟨by show((List.range (spn a b)).map _).length<=_;rw [List.length_map,List.length_range];omega,λx j=>?_⟩;obtain⟨k,-,rfl⟩:=List.mem_map.1 j;refine⟨?_,λs D=>?_⟩
   ·have:=aEv (runT (tel l a) (eH r l) (k+1)).2.possible r.Phases;have:=g.g.p;show(phL _ _).length<=_;omega
   ·obtain⟨i,-,q⟩:=(aPs _ _ _).1 D;exact g.g.pn s (qS q)
  ·rw [if_neg z]at c;subst c;exact⟨Nat.zero_le _,λx j=>by cases j⟩
 obtain⟨v,v1,v2,v3⟩:=aUc d h B n o;unfold Ffq;rw [Phases_eq d h n o,zC,aXo d h];have F:=c _ rfl;generalize (if evE r l a b=0 then(evP r l a b,(0:Int))else([],evE r l a b))=p at *
 obtain⟨P,_⟩:=p;obtain⟨u,w⟩:=F;dsimp only at u w⊢;rw [zC];dsimp only;obtain⟨p,G,_⟩:=vY (gQ.mk []) (P.length:Int) (b:=0) (by simp) (by omega);obtain⟨g,y⟩:=phs_L1 P p.out (by omega) u w;obtain⟨E,H⟩:=v;obtain⟨t,I⟩:=events_ex E H v3;simp only [zG];rw [G,zC,zC,y,zC,phs_L2,y,zC];unfold Fbo;simp only [zG,zC];rw [v1,v2];simp only [decide_true,zT,zC,I,aXp]
end Go.Lf
