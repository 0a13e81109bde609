/- Laws that the claim stands on; no condition beyond those stated. -/
import Derived.Test.YtibkjjklfhfipadGreatDoorTEb
namespace Go.Lf
open Go.OB
def aAd (c:Cond):List Str:=if c.Kind=7 then [c.Name]else []
def p6 (c:Cond):Bool:=decide (c.Kind=6)
mutual
def rfC:Cond->List Str
 |⟨k,nm,c,op,n,fr,b⟩=>aAd ⟨k,nm,c,op,n,fr,b⟩++uM b
def uM:List Cond->List Str
 | []=>[]
 |c::l=>rfC c++uM l
end
theorem aQs (c:Cond):rfC c=aAd c++uM c.Kids:=by cases c;rfl
def pR2 (ph:List Str)(l:List fU)(c:Cond):Bool:=(decide (c.Kind=6)&& !(ph.any λy=>decide (c.Name=y)))||(decide (c.Kind=7)&& !nmd l c.Name)
theorem aSj (r:Rules)(i:Nat):pRl r i=pR2 r.Phases (r.Rules.take i):=rfl
mutual
theorem aKl {ph:List Str}{l:List fU}: ∀c:Cond,aT (pR2 ph l) c=false-> ∀s∈rfC c,nmd l s=true
 |⟨k,nm,o,op,n,fr,j⟩,h,s,b=>by
  rw [aT,Bool.or_eq_false_iff]at h;rw [rfC,mA]at b;rcases b with b|b
  ·unfold aAd at b;split at b
   ·rename_i e;obtain rfl:=mS.1 b;have e:k=7:=e;have d:=h.1;unfold pR2 at d;simp only [e,decide_true,Bool.true_and,Bool.or_eq_false_iff,Bool.not_eq_false']at d;exact d.2
   ·cases b
  ·exact aOk j h.2 s b
theorem aOk {ph:List Str}{l:List fU}: ∀d:List Cond,kC (pR2 ph l) d=false-> ∀s∈uM d,nmd l s=true
 | [],_,s,b=>by cases b
 |c::d,h,s,b=>by
  rw [kC,Bool.or_eq_false_iff]at h;rw [uM,mA]at b;rcases b with b|b
  ·exact aKl c h.1 s b
  ·exact aOk d h.2 s b
end
mutual
theorem aOf {ph b:List Str}{l d:List fU}: ∀c:Cond,aT (pR2 ph l) c=false->(∀s∈rfC c,nmd d s=true)->(aT p6 c=true->b=ph)->aT (pR2 b d) c=false
 |⟨k,nm,u,op,n,fr,p⟩,h,j,o=>by
  rw [aT,Bool.or_eq_false_iff]at h⊢;rw [rfC]at j;refine⟨?_,aKz p h.2 (λs t=>j s (List.mem_append_right _ t)) λe=>o (by rw [aT,e,Bool.or_true])⟩;have q:=h.1;unfold pR2 at q⊢;rw [Bool.or_eq_false_iff]at q⊢;refine⟨?_,?_⟩
  ·by_cases e:k=6
   ·rw [o (by rw [aT,Bool.or_eq_true];exact .inl (dT e))];exact q.1
   ·show(decide (k=6)&&_)=false;rw [qD e,Bool.false_and]
  ·by_cases e:k=7
   ·have:nmd d nm=true:=j nm (List.mem_append_left _ (by unfold aAd;rw [if_pos e];exact mS.2 rfl));show(_&& !nmd d nm)=false;rw [this,Bool.not_true,Bool.and_false]
   ·show(decide (k=7)&&_)=false;rw [qD e,Bool.false_and]
theorem aKz {ph d:List Str}{l o:List fU}: ∀b:List Cond,kC (pR2 ph l) b=false->(∀s∈uM b,nmd o s=true)->(kC p6 b=true->d=ph)->kC (pR2 d o) b=false
 | [],_,_,_=>rfl
 |c::b,h,j,p=>by
  rw [kC,Bool.or_eq_false_iff]at h⊢;rw [uM]at j;exact⟨aOf c h.1 (λs k=>j s (List.mem_append_left _ k)) λe=>p (by rw [kC,e,Bool.true_or]),
   aKz b h.2 (λs k=>j s (List.mem_append_right _ k)) λe=>p (by rw [kC,e,Bool.or_true])⟩
end
def Nms (r:Rules)(p q:Nat):Prop:= ∃x y,r.Rules[p]? =some x/\r.Rules[q]? =some y/\y.Name∈rfC x.When
inductive Rch (r:Rules) (i:Nat):Nat->Prop
 |base:Rch r i i
 |step {p q:Nat}:Rch r i p->Nms r p q->Rch r i q
def RPh (r:Rules)(i:Nat):Prop:= ∃p x,Rch r i p/\r.Rules[p]? =some x/\aT p6 x.When=true
theorem aDe {l:List fU}{s:Str}:nmd l s=true↔ ∃(j:Nat) (y:fU),l[j]? =some y/\y.Name=s:=by
 unfold nmd;rw [List.any_eq_true];constructor;rintro⟨y,c,e⟩;obtain⟨j,b⟩:=List.getElem?_of_mem c;exact⟨j,y,b,of_decide_eq_true e⟩;rintro⟨j,y,b,e⟩;exact⟨y,qS b,dT e⟩
theorem tV {r:Rules}(h:chk r=some 0){p q:Nat}{x y:fU}(d:r.Rules[p]? =some x)(j:r.Rules[q]? =some y)(e:x.Name=y.Name):p=q:=by
 have b: ∀{p q:Nat}{x y:fU},r.Rules[p]? =some x->r.Rules[q]? =some y->x.Name=y.Name-> ¬p<q:=by
  intro p q x y d j e k;have:=(aEh h q y j).1;rw [<-Bool.not_eq_true,aDe]at this;exact this ⟨p,x,by rw [List.getElem?_take_of_lt k];exact d,e⟩
 rcases Nat.lt_trichotomy p q with c|c|c
 ·exact absurd c (b d j e)
 ·exact c
 ·exact absurd c (b j d e.symm)
theorem nms_lt {r:Rules}(h:chk r=some 0){p q:Nat}(n:Nms r p q):q<p:=by
 obtain⟨x,_,c,d,k⟩:=n;have:=aKl x.When (by rw [<-aSj];exact(aEh h p x c).2) _ k;obtain⟨j,_,b,e⟩:=aDe.1 this;have o:j<p:=by
  have:=(gS.1 b).1;rw [List.length_take]at this;omega
 rw [List.getElem?_take_of_lt o]at b;have:=tV h b d e;omega
theorem aZc {r:Rules}(h:chk r=some 0){p:Nat}{x:fU}(c:r.Rules[p]? =some x){s:Str}(d:s∈rfC x.When): ∃q y,q<p/\r.Rules[q]? =some y/\y.Name=s/\Nms r p q:=by
 have:=aKl x.When (by rw [<-aSj];exact(aEh h p x c).2) _ d;obtain⟨j,z,b,e⟩:=aDe.1 this;have k:j<p:=by
  have:=(gS.1 b).1;rw [List.length_take]at this;omega
 rw [List.getElem?_take_of_lt k]at b;exact⟨j,z,k,b,e,x,z,c,b,by rw [e];exact d⟩
theorem aRo {r:Rules}(h:chk r=some 0){i q:Nat}(b:Rch r i q):q<=i:=by
 induction b with
 |base=>exact Nat.le_refl _
 |step _ n _=>have:=nms_lt h n;omega
theorem aVs {l:List (Str×Bool)}{k s:Str}:aV (vY l k true) s false=if k=s then true else aV l s false:=by
 induction l with
 |nil=>
  rw [vY];unfold aV
  by_cases e:k=s
  ·subst e;simp
  ·simp [e]
 |cons a l c=>
  rw [vY];unfold aV at c⊢
  by_cases e:a.1=k
  ·rw [if_pos e]
   by_cases b:k=s
   ·subst b;simp
   ·have:a.1≠s:=λq=>b (e.symm.trans q)
    rw [if_neg b];simp [b,this]
  ·rw [if_neg e]
   by_cases b:a.1=s
   ·have: ¬k=s:=λq=>e (b.trans q.symm)
    simp [b,this]
   ·simp only [List.find?_cons,b,decide_false];exact c
theorem aQg {s:Str}: ∀(b:List Str) (l:List (Str×Bool)),aV (b.foldl (λm k=>vY m k true) l) s false=true↔aV l s false=true\/s∈b
 | [],l=>by simp
 |k::b,l=>by
  rw [List.foldl_cons,aQg b,aVs]
  by_cases e:k=s
  ·subst e;simp
  ·rw [if_neg e];simp [Ne.symm e]
theorem aFh: ∀a b:List Cond,uM (a++b)=uM a++uM b
 | [],_=>rfl
 |c::a,b=>by rw [List.cons_append,uM,uM,aFh a b,List.append_assoc]
theorem aGw (p:Cond->Bool): ∀a b:List Cond,kC p (a++b)=(kC p a||kC p b)
 | [],_=>rfl
 |c::a,b=>by rw [List.cons_append,kC,kC,aGw p a b,Bool.or_assoc]
theorem aOb: ∀(n:Nat) (c:Cond) (b:Bool) (m:List (Str×Bool)),dN c<=n->okC c->Fbp n c b m=some (b||aT p6 c,(rfC c).foldl (λ(m:List (Str×Bool)) k=>vY m k true) m)
 |0,c,b,m,j,_=>absurd j (by have:=pI c;omega)
 |n+1,c,b,m,j,o=>by
  have d:=((jI c).1 o).2.1;have p:Ffh c b m=some (b||p6 c,(aAd c).foldl (λ(m:List (Str×Bool)) k=>vY m k true) m):=by
   unfold Ffh aAd p6;simp only [zH];have q:gK b (some true) (some (decide (c.Kind=6)))=some (b||decide (c.Kind=6)):=by cases b<;>rfl
   rw [q,zC]
   by_cases e:c.Kind=7
   ·rw [dT e,zS,if_pos e];rfl
   ·rw [qD e,zK,if_neg e];rfl
  show Fct (Fbp n) _ _ _=_;unfold Fct;rw [p,zC];simp only [zH];rw [aCu,aQs,List.foldl_append,<-Bool.or_assoc];generalize (b||p6 c)=b0;generalize (aAd c).foldl (λ(m:List (Str×Bool)) k=>vY m k true) m=m0;unfold Ff2;rw [show((0:Int),b0,m0)=(λ(i:Nat)=>((i:Int),b0||kC p6 (c.Kids.take i),(uM (c.Kids.take i)).foldl (λ(m:List (Str×Bool)) k=>vY m k true) m0)) 0 by simp [kC,uM]];refine(xO (λ(i:Nat)=>((i:Int),b0||kC p6 (c.Kids.take i),(uM (c.Kids.take i)).foldl (λ(m:List (Str×Bool)) k=>vY m k true) m0)) c.Kids (some (b0||kC p6 (c.Kids.take c.Kids.length),(uM (c.Kids.take c.Kids.length)).foldl (λ(m:List (Str×Bool)) k=>vY m k true) m0)) d ?_ ?_).trans (by rw [List.take_length])
  ·intro k i x h hi;obtain⟨t,_,_⟩:=pK o h;simp only [zH];rw [yP hi,zS,yQ h,zC,aOb n x _ _ (by omega) t,zC,fO hi d,mO h,aGw,aFh,List.foldl_append];simp only [kC,uM,Bool.or_false,List.append_nil,Bool.or_assoc]
  ·intro k;simp only [zH];rw [yR,zK]
theorem aYt {c:Cond}(g:Gt c)(b:Bool)(m:List (Str×Bool)):Fh0 c b m=some (b||aT p6 c,(rfC c).foldl (λ(m:List (Str×Bool)) k=>vY m k true) m):=
 aOb FU c b m (Nat.le_of_lt (wM (by have:=g.d;omega))) g.ok
def stP (r:Rules)(i:Nat):Nat->List (Str×Bool)×Bool
 |0=>([(((r.Rules[i]?).map fU.Name).getD [],true)],false)
 |p+1=>match r.Rules[i-p]? with
  |some x=>if aV (stP r i p).1 x.Name false=true then((rfC x.When).foldl (λm k=>vY m k true) (stP r i p).1,(stP r i p).2||aT p6 x.When)else stP r i p
  |none=>stP r i p
structure StI (r:Rules)(i p:Nat)(s:List (Str×Bool)×Bool):Prop where
 m: ∀(q:Nat) y,r.Rules[q]? =some y->(aV s.1 y.Name false=true↔q=i\/ ∃p',i<p'+p/\Rch r i p'/\Nms r p' q)
 f:s.2=true↔ ∃p' x,i<p'+p/\Rch r i p'/\r.Rules[p']? =some x/\aT p6 x.When=true
theorem stP_I {r:Rules} (h:chk r=some 0) {i:Nat} (hi:i<r.Rules.length): ∀p,p<=i+1->StI r i p (stP r i p)
 |0,_=>by
  obtain⟨z,A⟩: ∃z,r.Rules[i]? =some z:=⟨_,gE hi⟩;refine⟨λq y t=>?_,?_⟩
  ·rw [stP,A];show aV [(z.Name,true)] y.Name false=true↔_;have e:aV [(z.Name,true)] y.Name false=if z.Name=y.Name then true else false:=(aVs (l:=[]) (k:=z.Name) (s:=y.Name));rw [e];constructor
   ·intro q;split at q
    ·rename_i c;exact .inl (tV h t A c.symm)
    ·cases q
   ·rintro(rfl|⟨d,o,b,j⟩)
    ·rw [A]at t;rw [oI t,if_pos rfl]
    ·have:=aRo h b;omega
  ·constructor
   ·intro q;cases q
   ·rintro⟨d,x,o,b,-⟩;have:=aRo h b;omega
 |p+1,_=>by
  have v:=stP_I h hi p (by omega);obtain⟨x,u⟩: ∃x,r.Rules[i-p]? =some x:=⟨_,gE (by omega)⟩;have C:aV (stP r i p).1 x.Name false=true↔Rch r i (i-p):=by
   rw [v.m _ x u];constructor
   ·rintro(e|⟨d,o,b,j⟩)
    ·rw [e];exact .base
    ·exact .step b j
   ·intro q;generalize hk:i-p=k at q
    cases q with
    |base=>exact .inl rfl
    |step E D=>
     have:=nms_lt h D;exact .inr ⟨_,by omega,E,D⟩
  rw [stP,u];dsimp only
  by_cases c:aV (stP r i p).1 x.Name false=true
  ·have w:=C.1 c;rw [if_pos c];refine⟨λq y t=>?_,?_⟩
   ·show aV ((rfC x.When).foldl _ _) _ _=true↔_;rw [aQg,v.m q y t];constructor
    ·rintro((e|⟨d,o,b,j⟩)|e)
     ·exact .inl e
     ·exact .inr ⟨d,by omega,b,j⟩
     ·exact .inr ⟨i-p,by omega,w,x,y,u,t,e⟩
    ·rintro(e|⟨d,o,b,j⟩)
     ·exact .inl (.inl e)
     ·by_cases e:d=i-p
      ·subst e;obtain⟨_,_,a1,a2,a3⟩:=j;rw [u]at a1;rw [t]at a2;rw [<-oI a1,<-oI a2]at a3;exact .inr a3
      ·exact .inl (.inr ⟨d,by omega,b,j⟩)
   ·show((stP r i p).2||aT p6 x.When)=true↔_;rw [Bool.or_eq_true,v.f];constructor
    ·rintro(⟨d,z,o,b,j⟩|e)
     ·exact⟨d,z,by omega,b,j⟩
     ·exact⟨i-p,x,by omega,w,u,e⟩
    ·rintro⟨d,z,o,b,j,B⟩
     by_cases e:d=i-p
     ·subst e;rw [u]at j;rw [<-oI j]at B;exact .inr B
     ·exact .inl ⟨d,z,by omega,b,j,B⟩
  ·have w: ¬Rch r i (i-p):=λq=>c (C.2 q)
   rw [if_neg c];refine⟨λq y t=>?_,?_⟩
   ·rw [v.m q y t];constructor
    ·rintro(e|⟨d,o,b,j⟩)
     ·exact .inl e
     ·exact .inr ⟨d,by omega,b,j⟩
    ·rintro(e|⟨d,o,b,j⟩)
     ·exact .inl e
     ·refine .inr ⟨d,?_,b,j⟩;have:d≠i-p:=λe=>w (by rw [<-e];exact b)
      omega
   ·rw [v.f];constructor
    ·rintro⟨d,z,o,b,j⟩;exact⟨d,z,by omega,b,j⟩
    ·rintro⟨d,z,o,b,j⟩;have:d≠i-p:=λe=>w (by rw [<-e];exact b)
     exact⟨d,z,by omega,b,j⟩
def ndM (r:Rules)(i:Nat):List (Str×Bool):=(stP r i (i+1)).1
def ndF (r:Rules)(i:Nat):Bool:=(stP r i (i+1)).2
theorem aIz {r:Rules} (h:chk r=some 0) {i:Nat} (hi:i<r.Rules.length) {q:Nat}{y:fU} (b:r.Rules[q]? =some y):aV (ndM r i) y.Name false=true↔Rch r i q:=by
 refine((stP_I h hi (i+1) (Nat.le_refl _)).m q y b).trans ⟨?_,λk=>?_⟩
 ·rintro(e|⟨_,_,c,d⟩)
  ·rw [e];exact .base
  ·exact .step c d
 ·cases k with
  |base=>exact .inl rfl
  |step j o=>exact .inr ⟨_,by omega,j,o⟩
theorem bCq {r:Rules}(h:chk r=some 0){i:Nat}(hi:i<r.Rules.length):ndF r i=true↔RPh r i:=by
 refine((stP_I h hi (i+1) (Nat.le_refl _)).f).trans ⟨?_,?_⟩;rintro⟨b,x,_,c,d,e⟩;exact⟨b,x,c,d,e⟩;rintro⟨b,x,c,d,e⟩;exact⟨b,x,by omega,c,d,e⟩
def nbR (r:Rules)(i:Nat)(x:fU):Bool:=aV (ndM r i) x.Name false
def fK (r:Rules)(i:Nat):Rules:=⟨if ndF r i=true then r.Phases else [],if ndF r i=true then r.Moves else [],(r.Rules.take (i+1)).filter (nbR r i)⟩
theorem bCu {r:Rules} (g:Gr' r) {i:Nat} (hi:i<r.Rules.length):Fc9 r (i:Int)=some (fK r i):=by
 have A:=g.l;obtain⟨z,e⟩: ∃z,r.Rules[i]? =some z:=⟨_,gE hi⟩;have l1:Fgn r ((i:Int),[(z.Name,true)],false)=some (ndM r i,ndF r i):=by
  unfold Fgn;have o:((i:Int),[(z.Name,true)],false)=(λ(p:Nat)=>((i:Int)-(p:Int),(stP r i p).1,(stP r i p).2)) 0:=by
   dsimp only;rw [stP,e,show(i:Int)-((0:Nat):Int)=i by omega];rfl
  rw [o];have h:(List.replicate (i+1) ()).length=i+1:=List.length_replicate;refine xO (λ(p:Nat)=>((i:Int)-(p:Int),(stP r i p).1,(stP r i p).2)) (List.replicate (i+1) ()) _ (by omega) ?_ ?_
  ·rintro k p _-d;rw [h]at d;obtain⟨x,b⟩: ∃x,r.Rules[i-p]? =some x:=⟨_,gE (by omega)⟩;have q:=(g.lg x (qS b)).1;have t:(i:Int)-(p:Int)=((i-p:Nat):Int):=by omega
   simp only [zH];rw [dT (by omega),zS,t,yQ b,zC,stP,b];dsimp only;have j:IntKind.i64.wrap (((i-p:Nat):Int)-1)=(i:Int)-((p+1:Nat):Int):=by rw [wrap_i64 (by omega) (by omega)];omega
   cases c:aV (stP r i p).1 x.Name false
   ·simp only [Bool.not_false,zS,zC];rw [if_neg (by decide),j]
   ·simp only [Bool.not_true,zK,zC];rw [aYt q,zC,zC,j,if_pos trivial]
  ·intro k;rw [h];simp only [zH];rw [qD (by omega),zK];rfl
 have l2:Fgc (ndM r i) (r.Rules.take (i+1)) ((r.Rules.take (i+1)).length:Int) (0,[])=some ((r.Rules.take (i+1)).filter (nbR r i)):=by
  have v:(r.Rules.take (i+1)).length<=60:=by rw [List.length_take];omega
  unfold Fgc;generalize r.Rules.take (i+1)=l at v;rw [show((0:Int),([]:List fU))=(λ(p:Nat)=>((p:Int),(l.take p).filter (nbR r i))) 0 from rfl];refine(xO (λ(p:Nat)=>((p:Int),(l.take p).filter (nbR r i))) l (some ((l.take l.length).filter (nbR r i))) (by omega) ?_ ?_).trans (by rw [List.take_length])
  ·intro k p x b d;have B:((l.take p).filter (nbR r i)).length<=60:=by
    have:=List.length_filter_le (nbR r i) (l.take p);rw [List.length_take]at this;omega
   have w:app' 104 ((l.take p).filter (nbR r i)) [x]=some ((l.take p).filter (nbR r i)++[x]):=by
    unfold app';rw [if_pos ⟨by rw [maxLen_eq];simp;omega,by simp;omega⟩]
   simp only [zH];rw [yP d,zS,yQ b,zC,mO b,List.filter_append,fO d (by omega)]
   cases c:aV (ndM r i) x.Name false
   ·rw [zK,zC,List.filter_cons_of_neg (by unfold nbR;rw [c];decide),List.filter_nil,List.append_nil]
   ·rw [zS,w,zC,zC,List.filter_cons_of_pos (by unfold nbR;exact c),List.filter_nil]
  ·intro k;simp only [zH];rw [yR,zK]
 unfold Fc9 fK;have y:mput ([]:List (Str×Bool)) z.Name true=some [(z.Name,true)]:=by unfold mput;simp
 rw [yQ e,zC,y,zC,l1,zC];dsimp only;have ite:gK (ndF r i) (some (r.Phases,r.Moves)) (some (([],[]):List Str×List dH))=some (if ndF r i=true then r.Phases else [],if ndF r i=true then r.Moves else []):=by
  cases ndF r i<;>rfl
 rw [ite,zC];simp only [zH];rw [fO hi (by omega),aFg _ _ (by omega),zC,l2,zC]
theorem aGl {b:Type}(e:Nat->b->Int)(fin:Option Int): ∀(l:List b) (i:Nat),(∀(j:Nat) x,l[j]? =some x->e (i+j) x=0)->dU (λi x=>if e i x=0 then none else some (some (e i x))) fin l i=fin
 | [],i,h=>rfl
 |a::l,i,h=>by
  have c:e i a=0:=h 0 a rfl;rw [dU,if_pos c];refine aGl e fin l (i+1) λj x d=>?_
  have:=h (j+1) x (by simpa using d);rwa [show i+1+j=i+(j+1)by omega]
theorem chk_of {r:Rules}(e:r.Phases.length<=20)(h:r.Moves.length<=60)(k:r.Rules.length<=60)(c: ∀(i:Nat) x,r.Phases[i]? =some x->phE r.Phases i x=0)(hm: ∀x∈r.Moves,mvE r x=0)
    (d: ∀(i:Nat) x,r.Rules[i]? =some x->rlE r i x=0):chk r=some 0:=by
 unfold chk;rw [qD (by omega),qD (by omega),qD (by omega)];rw [aGl (rlE r) _ _ _ (λj x b=>by rw [Nat.zero_add];exact d j x b),aGl (λ_=>mvE r) _ _ _ (λj x b=>hm x (qS b)),aGl (phE r.Phases) _ _ _ (λj x b=>by rw [Nat.zero_add];exact c j x b)];rfl
theorem chk_parts {r:Rules} (h:chk r=some 0):(∀(i:Nat) x,r.Phases[i]? =some x->phE r.Phases i x=0)/\(∀x∈r.Moves,mvE r x=0)/\ ∀(i:Nat) x,r.Rules[i]? =some x->rlE r i x=0:=by
 unfold chk at h;split at h;exact absurd (oI h) (by decide);obtain⟨c,d⟩:=aX (phE r.Phases) _ _ _ h;obtain⟨e,k⟩:=aX (λ_=>mvE r) _ _ _ c;obtain⟨_,o⟩:=aX (rlE r) _ _ _ e;refine⟨λi x b=>by have:=d i x b;rwa [Nat.zero_add]at this,λx b=>?_,λi x b=>by have:=o i x b;rwa [Nat.zero_add]at this⟩;obtain⟨j,p⟩:=List.getElem?_of_mem b;exact k j x p
theorem bCp {b:Type}(p:b->Bool): ∀(l:List b) (q:Nat) (x:b),l[q]? =some x->p x=true->(l.filter p)[((l.take q).filter p).length]? =some x
 | [],q,x,h,_=>by simp at h
 |a::l,0,x,h,d=>by
  obtain rfl:a=x:=by simpa using h
  rw [List.take_zero,List.filter_nil,List.filter_cons_of_pos d];rfl
 |a::l,q+1,x,h,d=>by
  have e:=bCp p l q x (by simpa using h) d;rw [List.take_succ_cons]
  cases c:p a
  ·rw [List.filter_cons_of_neg (by rw [c];decide),List.filter_cons_of_neg (by rw [c];decide)];exact e
  ·rw [List.filter_cons_of_pos c,List.filter_cons_of_pos c];simpa using e
theorem aQd {b:Type}(p:b->Bool): ∀(l:List b) (q:Nat),(l.filter p).take ((l.take q).filter p).length=(l.take q).filter p
 | [],q=>by simp
 |a::l,0=>by simp
 |a::l,q+1=>by
  have d:=aQd p l q;rw [List.take_succ_cons]
  cases c:p a
  ·rw [List.filter_cons_of_neg (by rw [c];decide),List.filter_cons_of_neg (by rw [c];decide)];exact d
  ·rw [List.filter_cons_of_pos c,List.filter_cons_of_pos c];simpa using d
theorem aGs {b:Type} (p:b->Bool): ∀(l:List b) (j:Nat) (x:b),(l.filter p)[j]? =some x-> ∃q,l[q]? =some x/\p x=true/\((l.take q).filter p).length=j
 | [],j,x,h=>by simp at h
 |a::l,j,x,h=>by
  cases c:p a
  ·rw [List.filter_cons_of_neg (by rw [c];decide)]at h;obtain⟨q,d,e,k⟩:=aGs p l j x h;exact⟨q+1,by simpa using d,e,by rw [List.take_succ_cons,List.filter_cons_of_neg (by rw [c];decide)];exact k⟩
  ·rw [List.filter_cons_of_pos c]at h
   cases j with
   |zero=>
    obtain rfl:a=x:=by simpa using h
    exact⟨0,rfl,c,rfl⟩
   |succ j=>
    obtain⟨q,d,e,k⟩:=aGs p l j x (by simpa using h);exact⟨q+1,by simpa using d,e,by rw [List.take_succ_cons,List.filter_cons_of_pos c,List.length_cons,k]⟩
section
variable {r:Rules}{i:Nat}
def plR (r:Rules)(i q:Nat):Nat:=((r.Rules.take q).filter (nbR r i)).length
theorem aYq (h:chk r=some 0)(hi:i<r.Rules.length){q:Nat}(c:Rch r i q): ∃x,r.Rules[q]? =some x/\(fK r i).Rules[plR r i q]? =some x:=by
 have d:=aRo h c;obtain⟨x,b⟩: ∃x,r.Rules[q]? =some x:=⟨_,gE (by omega)⟩;have:=bCp (nbR r i) (r.Rules.take (i+1)) q x (by rw [List.getElem?_take_of_lt (by omega)];exact b) ((aIz h hi b).2 c);rw [List.take_take,Nat.min_eq_left (by omega)]at this;exact⟨x,b,this⟩
theorem aEv (h:chk r=some 0)(hi:i<r.Rules.length){j:Nat}{x:fU}(d:(fK r i).Rules[j]? =some x): ∃q,Rch r i q/\r.Rules[q]? =some x/\plR r i q=j:=by
 obtain⟨q,b,e,c⟩:=aGs (nbR r i) (r.Rules.take (i+1)) j x d;have k:q<i+1:=by
  have:=(gS.1 b).1;rw [List.length_take]at this;omega
 rw [List.getElem?_take_of_lt k]at b;rw [List.take_take,Nat.min_eq_left (by omega)]at c;exact⟨q,(aIz h hi b).1 e,b,c⟩
theorem plR_take (h:chk r=some 0)(_:i<r.Rules.length){q:Nat}(b:Rch r i q):(fK r i).Rules.take (plR r i q)=(r.Rules.take q).filter (nbR r i):=by
 have c:=aRo h b;have:=aQd (nbR r i) (r.Rules.take (i+1)) q;rw [List.take_take,Nat.min_eq_left (by omega)]at this;exact this
theorem plR_named (h:chk r=some 0)(hi:i<r.Rules.length){q:Nat}(c:Rch r i q){x:fU}(j:r.Rules[q]? =some x){s:Str}(k:s∈rfC x.When):
    ∃p y,p<q/\Rch r i p/\r.Rules[p]? =some y/\y.Name=s/\y∈(fK r i).Rules.take (plR r i q):=by
 obtain⟨p,y,d,b,o,t⟩:=aZc h j k;have e:=Rch.step c t;refine⟨p,y,d,e,b,o,?_⟩;rw [plR_take h hi c,List.mem_filter];exact⟨qS (by rw [List.getElem?_take_of_lt d];exact b),(aIz h hi b).2 e⟩
theorem aMw (c:okR r):okR (fK r i):=by
 obtain⟨⟨p1,p2⟩,⟨m1,m2⟩,⟨_,d⟩⟩:=c;refine⟨?_,?_,?_,λx b=>d x (List.mem_of_mem_take (List.mem_filter.1 b).1)⟩;show okL okS (if ndF r i=true then r.Phases else []);split;exact⟨p1,p2⟩;exact⟨Nat.zero_le _,λx b=>by cases b⟩;show okL _ (if ndF r i=true then r.Moves else []);split;exact⟨m1,m2⟩;exact⟨Nat.zero_le _,λx b=>by cases b⟩;have:=List.length_filter_le (nbR r i) (r.Rules.take (i+1));rw [List.length_take]at this;show((r.Rules.take (i+1)).filter (nbR r i)).length<=_;omega
theorem aKo (g:Gr' r) (h:chk r=some 0) (hi:i<r.Rules.length):chk (fK r i)=some 0:=by
 obtain⟨A,c2,c3⟩:=chk_parts h;have B:=g.p;have C:=g.m;have M:=g.l;have D:(fK r i).Rules.length<=60:=by
  have:=List.length_filter_le (nbR r i) (r.Rules.take (i+1));rw [List.length_take]at this;show((r.Rules.take (i+1)).filter (nbR r i)).length<=_;omega
 refine chk_of ?_ ?_ D ?_ ?_ ?_
 ·show(if ndF r i=true then r.Phases else []).length<=_;split
  ·exact B
  ·exact Nat.zero_le _
 ·show(if ndF r i=true then r.Moves else []).length<=_;split
  ·exact C
  ·exact Nat.zero_le _
 ·intro j x c;have c:(if ndF r i=true then r.Phases else [])[j]? =some x:=c;show phE (if ndF r i=true then r.Phases else []) j x=0;split at c
  ·rename_i e;rw [if_pos e];exact A j x c
  ·simp at c
 ·intro x c;have c:x∈(if ndF r i=true then r.Moves else []):=c;split at c
  ·rename_i e;have:=c2 x c;unfold mvE at this⊢;rw [show(fK r i).Phases=r.Phases from if_pos e];exact this
  ·cases c
 ·intro j x c;obtain⟨q,w,o,E⟩:=aEv h hi c;have a:=c3 q x o;unfold rlE at a⊢;split at a
  ·rename_i nm;rw [if_pos nm];split at a
   ·exact absurd a (by decide)
   ·split at a
    ·rename_i t;split at a
     ·exact absurd a (by decide)
     ·rename_i F;have d: ¬nmd ((fK r i).Rules.take j) x.Name=true:=by
       rw [aDe];rintro⟨G,y,u,e⟩;have H:G<j:=by
        have:=(gS.1 u).1;rw [List.length_take]at this;omega
       rw [List.getElem?_take_of_lt H]at u;obtain⟨_,_,I,_⟩:=aEv h hi u;have:=tV h I o e;subst this;omega
      have v:aT (pR2 r.Phases (r.Rules.take q)) x.When=false:=by simpa [aSj]using F
      have b:aT (pRl (fK r i) j) x.When=false:=by
       rw [aSj];refine aOf x.When v (λs J=>?_) (λe=>?_)
       ·obtain⟨p,y,-,-,-,K,z⟩:=plR_named h hi w o J;rw [E]at z;obtain⟨k,L⟩:=List.getElem?_of_mem z;exact aDe.2 ⟨k,y,L,K⟩
       ·exact if_pos ((bCq h hi).2 ⟨q,x,w,o,e⟩)
      rw [if_neg d,if_pos t,b];rfl
    ·rename_i t;exact absurd a t
  ·exact absurd a (by decide)
end
def On (s:List Bool)(q:Nat):Prop:=s[q]? =some true
structure DI (r:Rules)(nm:List Str)(a:Bool)(s s':List Bool)(ph:Bool):Prop where
 l:s'.length=s.length
 mo: ∀q,On s q->On s' q
 rf: ∀(q:Nat) y,r.Rules[q]? =some y->y.Name∈nm->On s' q
 cl: ∀q q',On s' q-> ¬On s q->Nms r q q'->On s' q'
 rc: ∀q,On s' q->On s q\/ ∃p y,r.Rules[p]? =some y/\y.Name∈nm/\Rch r p q
 ph:ph=true↔a=true\/ ∃q x,On s' q/\ ¬On s q/\r.Rules[q]? =some x/\aT p6 x.When=true
section
variable {r:Rules}{s s1 s2:List Bool}{n1 n2:List Str}{a1 a2 p1 p2:Bool}
theorem DI.nil (a:Bool):DI r [] a s s a:=⟨rfl,λ_ h=>h,λq _ _ h=>(by cases h),λq _ b c _=>absurd b c,λq h=> .inl h,by
 constructor
 ·exact λh=> .inl h
 ·rintro(h|⟨q,_,b,c,-⟩)
  ·exact h
  ·exact absurd b c⟩
theorem DI.app (k:DI r n1 a1 s s1 p1) (d:DI r n2 a2 s1 s2 p2):DI r (n1++n2) (a1||a2) s s2 (p1||p2):=by
 refine⟨d.l.trans k.l,λq h=>d.mo q (k.mo q h),λq y u hm=>?_,λq o t w v=>?_,λq t=>?_,?_⟩
 ·rcases mA.1 hm with hm|hm
  ·exact d.mo q (k.rf q y u hm)
  ·exact d.rf q y u hm
 ·by_cases c:On s1 q
  ·exact d.mo o (k.cl q o c w v)
  ·exact d.cl q o t c v
 ·rcases d.rc q t with c|⟨p,y,e,j,b⟩
  ·rcases k.rc q c with c|⟨p,y,e,j,b⟩
   ·exact .inl c
   ·exact .inr ⟨p,y,e,List.mem_append_left _ j,b⟩
  ·exact .inr ⟨p,y,e,List.mem_append_right _ j,b⟩
 ·rw [Bool.or_eq_true,Bool.or_eq_true,k.ph,d.ph];constructor
  ·rintro((c|⟨q,x,e,j,b⟩)|(c|⟨q,x,e,j,b⟩))
   ·exact .inl (.inl c)
   ·exact .inr ⟨q,x,d.mo q e,j,b⟩
   ·exact .inl (.inr c)
   ·exact .inr ⟨q,x,e,λc=>j (k.mo q c),b⟩
  ·rintro((c|c)|⟨q,x,e,j,b⟩)
   ·exact .inl (.inl c)
   ·exact .inr (.inl c)
   ·by_cases c:On s1 q
    ·exact .inl (.inr ⟨q,x,c,j,b⟩)
    ·exact .inr (.inr ⟨q,x,e,c,b⟩)
theorem Rch.trans {i p q:Nat}(b:Rch r i p)(c:Rch r p q):Rch r i q:=by
 induction c with
 |base=>exact b
 |step _ n d=>exact .step d n
theorem aEt {q p:Nat} (b:q<s.length):On (s.set q true) p↔p=q\/On s p:=by
 unfold On;by_cases c:q=p;subst c;rw [List.getElem?_set_self b];simp;rw [List.getElem?_set_ne c];constructor;exact λh=> .inr h;rintro(h|h);exact absurd h.symm c;exact h
theorem DI.had (h:chk r=some 0) {q:Nat}{y:fU} (e:r.Rules[q]? =some y) (j:On s q):DI r [y.Name] false s s false:=by
 refine⟨rfl,λ_ h=>h,λ_ _ k hm=>?_,λq _ b d _=>absurd b d,λq h=> .inl h,?_⟩;rw [tV h k e (mS.1 hm)];exact j;constructor;intro c;cases c;rintro(c|⟨q,_,b,d,-⟩);cases c;exact absurd b d
theorem DI.one (h:chk r=some 0) {q:Nat}{y:fU}{ph:Bool} (j:r.Rules[q]? =some y) (t:q<s.length) (E: ¬On s q) (d:DI r (rfC y.When) (aT p6 y.When) (s.set q true) s1 ph):DI r [y.Name] false s s1 ph:=by
 have B:On s1 q:=d.mo q ((aEt t).2 (.inl rfl));refine⟨by rw [d.l,List.length_set],λp u=>d.mo p ((aEt t).2 (.inr u)),λp _ F hm=>?_,λp C u v D=>?_,λp u=>?_,?_⟩
 ·rw [tV h F j (mS.1 hm)];exact B
 ·by_cases c:p=q
  ·subst c;obtain⟨_,w,e,o,b⟩:=D;rw [j]at e;rw [<-oI e]at b;exact d.rf C w o b
  ·exact d.cl p C u (λk=>(aEt t).1 k|>.elim c v) D
 ·rcases d.rc p u with k|⟨_,w,e,o,b⟩
  ·rcases(aEt t).1 k with c|c
   ·exact .inr ⟨q,y,j,mS.2 rfl,by rw [c];exact .base⟩
   ·exact .inl c
  ·exact .inr ⟨q,y,j,mS.2 rfl,(Rch.step .base ⟨y,w,j,e,o⟩).trans b⟩
 ·rw [d.ph];constructor
  ·rintro(c|⟨p,x,e,o,b⟩)
   ·exact .inr ⟨q,y,B,E,j,c⟩
   ·exact .inr ⟨p,x,e,λc=>o ((aEt t).2 (.inr c)),b⟩
  ·rintro(c|⟨p,x,e,o,b,A⟩)
   ·cases c
   ·by_cases c:p=q
    ·subst c;rw [j]at b;rw [<-oI b]at A;exact .inl A
    ·exact .inr ⟨p,x,e,λk=>(aEt t).1 k|>.elim c o,b,A⟩
end
theorem ruleOf_at {r:Rules}(g:Gr' r)(h:chk r=some 0){q:Nat}{y:fU}(b:r.Rules[q]? =some y):Faf r y.Name=some (q:Int):=by
 have k:=g.l;have hm:y.Name∈(r.Rules.take (q+1)).map fU.Name:=List.mem_map_of_mem (qS (by rw [List.getElem?_take_of_lt (Nat.lt_succ_self q)];exact b));obtain⟨_,_,c,-,_,d,e⟩:=aWh (l:=[]) hm;rw [aMg r y.Name (by omega) (List.mem_map_of_mem (qS b)),c,tV h d b e]
theorem aHr {r:Rules} (g:Gr' r) (h:chk r=some 0): ∀(n b:Nat) (c:Cond) (s:List Bool),dN c+30*b<=n->okC c->dN c<=21->s.length=r.Rules.length->(∀nm∈rfC c,∃q y,q<b/\r.Rules[q]? =some y/\y.Name=nm)->
  ∃A ph,Faw n r c s=some (ph,A)/\DI r (rfC c) (aT p6 c) s A ph
 |0,b,c,s,Q,_,_,_,_=>absurd Q (by have:=pI c;omega)
 |n+1,b,c,s,Q,ok,hd,R,S=>by
  have o:=((jI c).1 ok).2.1;have gl:=g.l
  -- the rule that is named
  have first : ∃s1 j,(gJ (decide (c.Kind=7)) λK=>
    gK K
    (gB (Faf r c.Name) λt=>
    gB (at' s t) λB=>
    gJ (!B) λC=>
    gK C
    (gB (at' s t) λ_=>
    gB (set' s t true) λD=>
    gB (at' r.Rules t) λE=>
    gB (Faw n r E.When D) λ⟨F,G⟩=>
    some (F,G))
    (some (decide (c.Kind=6),s)))
    (some (decide (c.Kind=6),s)))=some (j,s1)/\DI r (aAd c) (p6 c) s s1 j:=by
   simp only [zH]
   by_cases I:c.Kind=7
   ·have e6:p6 c=false:=qD (by omega);have T:aAd c=[c.Name]:=if_pos I;obtain⟨q,y,_,w,X⟩:=S c.Name (by rw [aQs,T];exact List.mem_append_left _ (mS.2 rfl));have hq:=(gS.1 w).1;have Y:=ruleOf_at g h w;rw [X]at Y;obtain⟨v,L⟩: ∃v,s[q]? =some v:=⟨_,gE (by omega)⟩;rw [dT I,zS,Y,zC,yQ L,zC,T,<-X,e6]
    cases v
    ·have gy:=(g.lg y (qS w)).1;have gd:=gy.d;have st:set' s (q:Int) true=some (s.set q true):=by unfold set';rw [if_pos ⟨by omega,by omega⟩,Int.toNat_natCast]
     obtain⟨A,ph,M,k2⟩:=aHr g h n q y.When (s.set q true) (by omega) gy.ok (by omega) (by rw [List.length_set];exact R) λnm hm=>by
      obtain⟨p,z,N,z2,z3,-⟩:=aZc h w hm;exact⟨p,z,N,z2,z3⟩
     rw [Bool.not_false,zS,zC,st,zC,yQ w,zC,M,zC];exact⟨A,ph,rfl,DI.one h w (by omega) (by unfold On;rw [L];simp) k2⟩
    ·rw [Bool.not_true,zK];exact⟨s,_,rfl,by rw [qD (by omega: ¬c.Kind=6)];exact DI.had h w L⟩
   ·rw [qD I,zK,show aAd c=[]from if_neg I];exact⟨s,_,rfl,DI.nil _⟩
  obtain⟨s1,j,e1,d1⟩:=first
  -- the kids
  have kids: ∃s2 u,Fb1 (Faw n) r c (j,0,s1)=some (u,s2)/\DI r (rfC c) (aT p6 c) s s2 u:=by
   have O: ∀nm∈uM c.Kids,∃q y,q<b/\r.Rules[q]? =some y/\y.Name=nm:=λnm hm=>S nm (by rw [aQs];exact List.mem_append_right _ hm)
   have P: ∃z:Bool×List Bool,Fb1 (Faw n) r c (j,0,s1)=some z/\DI r (aAd c++uM c.Kids) (p6 c||kC p6 c.Kids) s z.2 z.1:=by
    unfold Fb1;refine bT (λ(i:Nat) (z:Bool×List Bool)=>(z.1,(i:Int),z.2)) c.Kids (λi (z:Bool×List Bool)=>DI r (aAd c++uM (c.Kids.take i)) (p6 c||kC p6 (c.Kids.take i)) s z.2 z.1)
     (λ(z:Bool×List Bool)=>DI r (aAd c++uM c.Kids) (p6 c||kC p6 c.Kids) s z.2 z.1) o ?_ ?_ (j,s1) (by simpa [uM,kC]using d1)
    ·intro k i z x J hi H;obtain⟨M,k2,_⟩:=pK ok J;obtain⟨A,ph,r1,r2⟩:=aHr g h n b x z.2 (by omega) M (by omega) (by rw [H.l];exact R) λnm hm=>O nm (by
      have e:c.Kids=c.Kids.take i++x::c.Kids.drop (i+1):=by
       obtain⟨a,b⟩:=gS.1 J;rw [<-b,<-List.drop_eq_getElem_cons a,List.take_append_drop]
      rw [e,aFh,uM];exact List.mem_append_right _ (List.mem_append_left _ hm))
     have d2:=H.app r2;refine⟨(z.1||ph,A),?_,?_⟩
     ·rw [mO J,aFh,aGw];simp only [uM,kC,List.append_nil,Bool.or_false,<-List.append_assoc,<-Bool.or_assoc];exact d2
     ·simp only [zH];rw [yP hi,zS,yQ J,zC,r1,zC]
      cases ph
      ·simp only [zK,zC,Bool.or_false];rw [fO hi o]
      ·simp only [zS,zC,Bool.or_true];rw [fO hi o]
    ·intro k z H;simp only [zH];rw [yR,zK];rw [List.take_length]at H;exact⟨_,rfl,H⟩
   obtain⟨z,N,z2⟩:=P;rw [aQs,aCu];exact⟨z.2,z.1,N,z2⟩
  obtain⟨s2,u,e2,d2⟩:=kids;refine⟨s2,u,?_,d2⟩;show Fc1 (Faw n) r c s=_;unfold Fc1;simp only [zH]at e1⊢;rw [e1,zC];dsimp only;rw [e2,zC]
theorem aZo {r:Rules} (g:Gr' r) (h:chk r=some 0) {i:Nat}{x:fU} (b:r.Rules[i]? =some x):
  ∃o ph,Fhu r x.When ((List.replicate r.Rules.length false).set i true)=some (ph,o)/\o.length=r.Rules.length/\(∀q,On o q↔Rch r i q)/\(ph=true↔RPh r i):=by
 have G:=g.l;have v:=(g.lg x (qS b)).1;have H:=v.d;have hi:=(gS.1 b).1;obtain⟨o,ph,B,d⟩:=aHr g h FU i x.When ((List.replicate r.Rules.length false).set i true) (Nat.le_of_lt (wM (by omega))) v.ok (by omega) (by simp) λ_ hm=>by
  obtain⟨p,z,C,z2,z3,-⟩:=aZc h b hm;exact⟨p,z,C,z2,z3⟩
 have t: ∀q,On ((List.replicate r.Rules.length false).set i true) q↔q=i:=by
  intro q;rw [aEt (by simpa using hi)];constructor
  ·rintro(e|e)
   ·exact e
   ·unfold On at e;rw [List.getElem?_replicate]at e;split at e<;>simp at e
  ·exact λe=> .inl e
 have j: ∀q,On o q↔Rch r i q:=by
  intro q;constructor
  ·intro u;rcases d.rc q u with k|⟨p,y,a1,a2,a3⟩
   ·rw [(t q).1 k];exact .base
   ·exact(Rch.step .base ⟨x,y,b,a1,a2⟩).trans a3
  ·intro u
   induction u with
   |base=>exact d.mo i ((t i).2 rfl)
   | @step p q _ n D=>
    by_cases c:p=i
    ·subst c;obtain⟨_,E,w,F,A⟩:=n;rw [b]at w;rw [<-oI w]at A;exact d.rf q E F A
    ·exact d.cl p q D (λk=>c ((t p).1 k)) n
 refine⟨o,ph,B,by rw [d.l];simp,j,?_⟩;rw [d.ph];constructor
 ·rintro(c|⟨q,y,a1,a2,a3,a4⟩)
  ·exact⟨i,x,.base,b,c⟩
  ·exact⟨q,y,(j q).1 a1,a3,a4⟩
 ·rintro⟨q,y,a1,a3,a4⟩
  by_cases c:q=i
  ·subst c;rw [b]at a3;rw [<-oI a3]at a4;exact .inl a4
  ·exact .inr ⟨q,y,(j q).2 a1,λk=>c ((t q).1 k),a3,a4⟩
theorem nm1_short {c:Cond} (g:Gt c): ∀s∈nm1 c,s.length<=30:=by
 have d:=g.self.nm;have e:=g.self.ot;intro s b;unfold nm1 at b;split at b
 ·obtain rfl:=mS.1 b;exact d
 ·split at b
  ·simp only [List.mem_cons,List.not_mem_nil,or_false]at b;rcases b with rfl|rfl
   ·exact d
   ·exact e
  ·cases b
theorem aEc: ∀(n:Nat) (c:Cond),dN c<=n->Gt c-> ∀s∈bG c,s.length<=30
 |0,c,h,_=>by have:=pI c;omega
 |n+1,c,h,g=>by
  intro s b;rw [wB,mA]at b;rcases b with b|b
  ·exact nm1_short g s b
  ·have d: ∀l:List Cond,s∈rC l-> ∃x∈l,s∈bG x:=by
    intro l
    induction l with
    |nil=>intro h;simp [rC]at h
    |cons a l k=>
     intro h;rw [rC,mA]at h;rcases h with h|h
     ·exact⟨a,List.mem_cons_self,h⟩
     ·obtain⟨x,o,p⟩:=k h;exact⟨x,List.mem_cons_of_mem _ o,p⟩
   obtain⟨x,e,b⟩:=d _ b;obtain⟨_,q⟩:=List.getElem?_of_mem e;have:=(pK g.ok q).2.1;exact aEc n x (by omega) (g.kid e) s b
theorem aWp {r:Rules}(g:Gr' r): ∀s∈jF r,s.length<=30:=by
 intro s b;unfold jF at b;rw [mA,List.mem_flatMap,List.mem_flatMap]at b;rcases b with ⟨x,e,b⟩|⟨x,e,b⟩
 ·have c:=(g.mg x e).1;exact aEc 20 _ c.d c s b
 ·have c:=(g.lg x e).1;exact aEc 20 _ c.d c s b
theorem aZl {r:Rules}(g:Gr' r): ∀s∈aEr r,s.length<=30:=by
 intro s b;unfold aEr at b;rw [uZ]at b;exact aWp g s (b.resolve_left (by simp))
theorem aOv {r:Rules}(b:okR r)(h:chk r=some 0):Fdl r=some (aEr r,0):=by
 have g:=vT b h;unfold Fdl;rw [aKg r b,h,zC];simp only [zH];rw [qD (by simp),zK,aWx g,zC,aUf];rfl
theorem aXx {r:Rules}(g:Gr' r):Fdc r=some (aEr r):=aZq g
theorem trkN_mem {r:Rules}{x:Str}:x∈aEr r↔x∈jF r:=by
 unfold aEr;rw [uZ];simp
theorem trkN_ss (r:Rules):SS (aEr r):=aGg _ _ (by unfold SS;exact List.Pairwise.nil)
theorem nms_le {c:Cond}(g:Gt c):(bG c).length<=400:=by
 have:=kZ c;have:=g.n;omega
section
variable {r:Rules}{i:Nat}
theorem needed_L1 (g:Gr' r) {s:List Bool} (E:s.length=r.Rules.length):
  ∃l,Fdz r s ([],0)=some l/\SS l/\l.length<=24000/\ ∀x,x∈l↔ ∃q y,On s q/\r.Rules[q]? =some y/\x∈bG y.When:=by
 have u:=g.l;have d: ∃l,Fdz r s ([],0)=some l/\(SS l/\l.length<=r.Rules.length*400/\ ∀x,x∈l↔ ∃q y,q<r.Rules.length/\On s q/\r.Rules[q]? =some y/\x∈bG y.When):=by
  unfold Fdz;refine bT (λ(i:Nat) (l:List Str)=>(l,(i:Int))) r.Rules (λi l=>SS l/\l.length<=i*400/\ ∀x,x∈l↔ ∃q y,q<i/\On s q/\r.Rules[q]? =some y/\x∈bG y.When) _ (by omega) ?_ ?_ [] ⟨List.Pairwise.nil,by simp,by simp⟩
  ·rintro k i l y c hi ⟨j,o,p⟩;have t:=(g.lg y (qS c)).1;have w:=nms_le t;obtain⟨v,h⟩: ∃v,s[i]? =some v:=⟨_,gE (by omega)⟩;have b:i*400<=60*400:=Nat.mul_le_mul_right _ (by omega);simp only [zH];rw [yP hi,zS,yQ h,zC]
   cases v
   ·rw [zK,zC,fO hi (by omega)];refine⟨l,⟨j,Nat.le_trans o (Nat.mul_le_mul_right _ (Nat.le_succ _)),λx=>?_⟩,rfl⟩;rw [p];constructor
    ·rintro⟨q,y,a1,a2,a3⟩;exact⟨q,y,by omega,a2,a3⟩
    ·rintro⟨q,y,a1,a2,a3⟩;refine⟨q,y,?_,a2,a3⟩;have:q≠i:=λe=>by rw [e]at a2;unfold On at a2;rw [h]at a2;cases a2
     omega
   ·rw [zS,yQ c,zC,aDk t l (by omega),zC,zC,fO hi (by omega)];refine⟨_,⟨aGg _ _ j,?_,λx=>?_⟩,rfl⟩
    ·rw [Nat.succ_mul];exact Nat.le_trans (tY (bG y.When) l) (Nat.add_le_add o w)
    ·rw [uZ,p];constructor
     ·rintro(⟨q,z,a1,a2,a3⟩|e)
      ·exact⟨q,z,by omega,a2,a3⟩
      ·exact⟨i,y,by omega,h,c,e⟩
     ·rintro⟨q,z,a1,a2,a3,a4⟩
      by_cases e:q=i
      ·subst e;rw [c]at a3;rw [<-oI a3]at a4;exact .inr a4
      ·exact .inl ⟨q,z,by omega,a2,a3,a4⟩
  ·rintro k l A;simp only [zH];rw [yR,zK];exact⟨_,rfl,A⟩
 obtain⟨l,B,C,_,D⟩:=d;have b:r.Rules.length*400<=60*400:=Nat.mul_le_mul_right _ u;refine⟨l,B,C,by omega,λx=>(D x).trans ⟨?_,?_⟩⟩
 ·rintro⟨q,y,a1,a2,a3⟩;exact⟨q,y,a2,a3⟩
 ·rintro⟨q,y,a2,a3,a4⟩;exact⟨q,y,(gS.1 a3).1,a2,a3,a4⟩
theorem needed_L2 (g:Gr' r) (ph:Bool) {c:List Str} (j:SS c) (D:c.length<=24000):
  ∃l,Fcr r ph (c,0)=some l/\SS l/\l.length<=48000/\ ∀x,x∈l↔x∈c\/(ph=true/\ ∃m∈r.Moves,x∈bG m.When):=by
 have p:=g.m
 cases ph
 ·refine⟨c,?_,j,by omega,λx=>by simp⟩;unfold Fcr;refine xO (λ(i:Nat)=>(c,(i:Int))) ([]:List Unit) (some c) (Nat.zero_le _) (λk i x q _=>(by simp at q)) ?_;intro k;simp only [zH];generalize decide (((([]:List Unit).length:Nat):Int)<(r.Moves.length:Int))=b
  cases b<;>rfl
 ·have d: ∃l,Fcr r true (c,0)=some l/\(SS l/\l.length<=24000+r.Moves.length*400/\ ∀x,x∈l↔x∈c\/ ∃m∈r.Moves.take r.Moves.length,x∈bG m.When):=by
   unfold Fcr;refine bT (λ(i:Nat) (l:List Str)=>(l,(i:Int))) r.Moves (λi l=>SS l/\l.length<=24000+i*400/\ ∀x,x∈l↔x∈c\/ ∃m∈r.Moves.take i,x∈bG m.When) _ (by omega) ?_ ?_ c ⟨j,by omega,by simp⟩
   ·rintro k i l y h hi ⟨t,u,v⟩;have o:=(g.mg y (qS h)).1;have w:=nms_le o;have b:i*400<=60*400:=Nat.mul_le_mul_right _ (by omega);simp only [zH];rw [yP hi,zS,zC,zS,yQ h,zC,aDk o l (by omega),zC,fO hi (by omega)];refine⟨_,⟨aGg _ _ t,?_,λx=>?_⟩,rfl⟩
    ·rw [Nat.succ_mul,<-Nat.add_assoc];exact Nat.le_trans (tY (bG y.When) l) (Nat.add_le_add u w)
    ·rw [uZ,v,mO h];simp only [mA,mS];constructor
     ·rintro((e|⟨m,a1,a2⟩)|e)
      ·exact .inl e
      ·exact .inr ⟨m,.inl a1,a2⟩
      ·exact .inr ⟨y,.inr rfl,e⟩
     ·rintro(e|⟨m,a1|rfl,a2⟩)
      ·exact .inl (.inl e)
      ·exact .inl (.inr ⟨m,a1,a2⟩)
      ·exact .inr a2
   ·rintro k l z;simp only [zH];rw [yR,zK,zC,zK];exact⟨_,rfl,z⟩
  obtain⟨l,A,B,_,C⟩:=d;have b:r.Moves.length*400<=60*400:=Nat.mul_le_mul_right _ p;refine⟨l,A,B,by omega,λx=>?_⟩;rw [C,List.take_length];simp
theorem part_good (b:okR r)(h:chk r=some 0)(hi:i<r.Rules.length):Gr' (fK r i):=vT (aMw b) (aKo (vT b h) h hi)
theorem needed_eq (o:okR r) (h:chk r=some 0) (hi:i<r.Rules.length):Fdy r (i:Int)=some (aEr (fK r i))/\Fe5 r (i:Int)=some (aEr (fK r i)):=by
 have g:=vT o h;have F:=g.l;obtain⟨x,p⟩: ∃x,r.Rules[i]? =some x:=⟨_,gE hi⟩;refine⟨?_,?_⟩
 ·unfold Fdy;rw [bCu g hi,zC,aOv (aMw o) (aKo g h hi),zC]
 ·obtain⟨s,ph,u,v,t,w⟩:=aZo g h p;obtain⟨_,a1,a2,a3,a4⟩:=needed_L1 g v;obtain⟨_,A,B,_,C⟩:=needed_L2 g ph a2 a3;have mk:make' 1 (r.Rules.length:Int) false=some (List.replicate r.Rules.length false):=by
   unfold make';rw [if_pos ⟨by omega,by omega,by omega⟩,Int.toNat_natCast]
  have d:at' (List.replicate r.Rules.length false) (i:Int)=some false:=yQ (by rw [List.getElem?_replicate,if_pos hi]);have D:set' (List.replicate r.Rules.length false) (i:Int) true=some ((List.replicate r.Rules.length false).set i true):=by
   unfold set';rw [if_pos ⟨by omega,by simpa using hi⟩,Int.toNat_natCast]
  unfold Fe5;simp only [zH];rw [mk,zC,d,zC,D,zC,yQ p,zC,u,zC];dsimp only;rw [a1,zC,A,zC]
  congr 1
  refine SS.ext B (trkN_ss _) λ_=>?_
  rw [C,a4,trkN_mem];unfold jF;rw [mA,List.mem_flatMap,List.mem_flatMap,w];have nf:=bCq h hi;constructor
  ·rintro(⟨q,y,k,c2,c3⟩|⟨k,m,c2,c3⟩)
   ·obtain⟨_,b,c⟩:=aYq h hi ((t q).1 k);rw [c2]at b;rw [<-oI b]at c;exact .inr ⟨y,qS c,c3⟩
   ·refine .inl ⟨m,?_,c3⟩;show m∈(if _ then _ else _);rw [if_pos (nf.2 k)];exact c2
  ·rintro(⟨m,c2,c3⟩|⟨y,c2,c3⟩)
   ·have c2:m∈(if ndF r i=true then r.Moves else []):=c2;split at c2
    ·rename_i e;exact .inr ⟨nf.1 e,m,c2,c3⟩
    ·cases c2
   ·obtain⟨_,E⟩:=List.getElem?_of_mem c2;obtain⟨q,b,c,-⟩:=aEv h hi E;exact .inl ⟨q,y,(t q).2 b,c,c3⟩
end
theorem aSw {b:Type}{f g:Nat->b}{n t:Nat}(h: ∀s,s<=t->f s=g s):win f n (t+1)=win g n (t+1):=win_congr λs _=>h s (by omega)
theorem aQi {a b a' e:Nat->Int}: ∀t:Nat,(∀s,s<=t->a s=a' s)->(∀s,s<=t->b s=e s)->sS a b t=sS a' e t
 |0,c,d=>by rw [sS,sS,c 0 (Nat.le_refl _),d 0 (Nat.le_refl _)]
 |t+1,c,d=>by
  rw [sS,sS,c (t+1) (Nat.le_refl _),d (t+1) (Nat.le_refl _),aQi t (λs h=>c s (by omega)) λs h=>d s (by omega)]
theorem prv_le {f g:Nat->Int}{t:Nat}(h: ∀s,s<=t->f s=g s):prv f t=prv g t:=by
 cases t with
 |zero=>rfl
 |succ t=>exact h t (by omega)
theorem bDk {E1 E2:En}{M1 M2:Mk} (B:E1.told=E2.told) (d:M1.tr=M2.tr) (A:M1.dn=M2.dn) (q:Cond->Bool) (T:Nat)
  (C: ∀c,q c=false->(c.Kind=6-> ∀t,t<=T->mD (E1.m t) (M1.ph c.Name)=mD (E2.m t) (M2.ph c.Name))/\(c.Kind=7-> ∀t,t<=T->aCs (E1.m t) (M1.rl c.Name)=aCs (E2.m t) (M2.rl c.Name))):
  ∀(n:Nat) (c:Cond),dN c<=n->Gt c->aT q c=false-> ∀t,t<=T->den E1 (mkN M1 c) t=den E2 (mkN M2 c) t
 |0,c,h,_,_,_,_=>by have:=pI c;omega
 |n+1,c,h,g,D,t,z=>by
  have p: ∀x∈c.Kids,∀s,s<=T->den E1 (mkN M1 x) s=den E2 (mkN M2 x) s:=λx b s v=>by
   obtain⟨_,F⟩:=List.getElem?_of_mem b;exact bDk B d A q T C n x (by have:=(pK g.ok F).2.1;omega) (g.kid b) (aJy b D) s v
  have gk:=g.gk;have G:=g.self;have E:=C c (aBo D);have tk: ∀u,(E1.m u).told=(E2.m u).told:=λu=>congrFun B u
  rw [jP,jP];rcases kinds G.k1 with e|e|e|e|e|e|e|e|e|e|e|e|e|e|e<;>rw [e]<;>simp only [mkK,Int.reduceEq,if_true,if_false,or_true,true_or,or_self]
  ·rw [den,den]
  ·rw [den,den]
  ·rw [den,den];rw [d];exact aQf (tk t) _ _ _
  ·rw [den,den];rw [d,A];exact aLf (tk t) _ _ _ _ _
  ·rw [den,den];have w:win (E1.tk (M1.tr c.Name)) c.Frames.toNat (t+1)=win (E2.tk (M2.tr c.Name)) c.Frames.toNat (t+1):=aSw λs _=>by
    unfold En.tk;rw [B,d]
   show stT _ _ (win _ _ _)=stT _ _ (win _ _ _);rw [w]
  ·rw [den,den];exact E.1 e t z
  ·rw [den,den];exact E.2 e t z
  ·obtain⟨x,b⟩:=aG (gk.o (by omega));rw [b];show den _ (.not (mkN M1 x)) t=den _ (.not (mkN M2 x)) t;rw [den,den];show opp _=opp _;rw [p x (by rw [b];exact List.mem_cons_self) t z]
  ·rw [den,den];show List.foldl _ _ (dens _ _ t)=List.foldl _ _ (dens _ _ t);have w:List.map ((λk=>den E1 k t)∘mkN M1) c.Kids=List.map ((λk=>den E2 k t)∘mkN M2) c.Kids:=List.map_congr_left λx b=>p x b t z
   rw [vG,vG,List.map_map,List.map_map,w]
  ·rw [den,den];show List.foldl _ _ (dens _ _ t)=List.foldl _ _ (dens _ _ t);have w:List.map ((λk=>den E1 k t)∘mkN M1) c.Kids=List.map ((λk=>den E2 k t)∘mkN M2) c.Kids:=List.map_congr_left λx b=>p x b t z
   rw [vG,vG,List.map_map,List.map_map,w]
  ·obtain⟨x,b⟩:=aG (gk.o (by omega));rw [b];show den _ (.count (mkN M1 x) _ _ _ _) t=den _ (.count (mkN M2 x) _ _ _ _) t;rw [den,den];show aAz _ _ (win _ _ _)=aAz _ _ (win _ _ _);rw [aSw λs v=>p x (by rw [b];exact List.mem_cons_self) s (by omega)]
  ·obtain⟨x,b⟩:=aG (gk.o (by omega));rw [b];show den _ (.count (mkN M1 x) _ _ _ _) t=den _ (.count (mkN M2 x) _ _ _ _) t;rw [den,den];show aAz _ _ (win _ _ _)=aAz _ _ (win _ _ _);rw [aSw λs v=>p x (by rw [b];exact List.mem_cons_self) s (by omega)]
  ·obtain⟨x,b⟩:=aG (gk.o (by omega));rw [b];show den _ (.count (mkN M1 x) _ _ _ _) t=den _ (.count (mkN M2 x) _ _ _ _) t;rw [den,den];show aAz _ _ (win _ _ _)=aAz _ _ (win _ _ _);rw [aSw λs v=>p x (by rw [b];exact List.mem_cons_self) s (by omega)]
  ·obtain⟨x,y,b⟩:=aCl (gk.t e);rw [b];show den _ (.since (mkN M1 x) (mkN M1 y) _ _) t=den _ (.since (mkN M2 x) (mkN M2 y) _ _) t;rw [den,den];exact aQi t (λs v=>p x (by rw [b];simp) s (by omega)) λs v=>p y (by rw [b];simp) s (by omega)
  ·obtain⟨x,b⟩:=aG (gk.o (by omega));rw [b];show den _ (.rises (mkN M1 x) _ _) t=den _ (.rises (mkN M2 x) _ _) t;rw [den,den];show aAv _ (prv _ t)=aAv _ (prv _ t);have k:=p x (by rw [b];exact List.mem_cons_self);rw [k t z,prv_le λs v=>k s (by omega)]
theorem phaseT_ps {m m':gQ}(h:m.possible=m'.possible)(p:Int):mD m p=mD m' p:=by
 obtain⟨a,b,_⟩:=m;obtain⟨_,d,_⟩:=m';obtain rfl:b=d:=h;rfl
section
variable {r:Rules}{i:Nat}{l:List Track}{f:Nat->List gY}
theorem aFm (h:GB r l) (hi:i<r.Rules.length):GB (fK r i) l:=by
 refine⟨aMw h.ok,aKo h.g h.c hi,h.t,λs b=>h.n s ?_⟩;unfold jF at b⊢;rw [mA,List.mem_flatMap,List.mem_flatMap]at b⊢;rcases b with ⟨m,hm,e⟩|⟨y,d,e⟩
 ·have hm:m∈(if ndF r i=true then r.Moves else []):=hm;split at hm
  ·exact .inl ⟨m,hm,e⟩
  ·cases hm
 ·exact .inr ⟨y,List.mem_of_mem_take (List.mem_filter.1 d).1,e⟩
theorem aTz (b:ndF r i=true): ∀n,(runT f (fZ (fK r i) l) n).2.phases=(runT f (fZ r l) n).2.phases/\(runT f (fZ (fK r i) l) n).2.moves=(runT f (fZ r l) n).2.moves/\(runT f (fZ (fK r i) l) n).2.possible=(runT f (fZ r l) n).2.possible
 |0=>by
  have c:(fK r i).Phases=r.Phases:=if_pos b;have j:(fK r i).Moves=r.Moves:=if_pos b;have k:mvN (fK r i) l=mvN r l:=by
   funext m
   unfold mvN MkR;rw [c];rfl
  show(fZ (fK r i) l).phases=(fZ r l).phases/\(fZ (fK r i) l).moves=(fZ r l).moves/\(fZ (fK r i) l).possible=(fZ r l).possible;unfold fZ;dsimp only;rw [c,j,k];exact⟨rfl,rfl,rfl⟩
 |n+1=>by
  obtain⟨d,h,o⟩:=aTz b n;have e:pV (f n) (runT f (fZ (fK r i) l) n).2=pV (f n) (runT f (fZ r l) n).2:=by
   unfold pV;rw [d,h,o]
  show(nxt _ _).2.phases=(nxt _ _).2.phases/\(nxt _ _).2.moves=(nxt _ _).2.moves/\(nxt _ _).2.possible=(nxt _ _).2.possible;unfold nxt;dsimp only;rw [d,h,e];exact⟨rfl,rfl,rfl⟩
theorem ps_same (b:ndF r i=true)(t:Nat):(EnW f (fZ (fK r i) l)).ps t=(EnW f (fZ r l)).ps t:=by
 obtain⟨c,d,e⟩:=aTz (f:=f) (l:=l) b t;show pV _ _=pV _ _;unfold pV;rw [c,d,e]
theorem plR_mono {p q:Nat}(h:p<=q):plR r i p<=plR r i q:=by
 unfold plR;have:(r.Rules.take q).take p=r.Rules.take p:=by rw [List.take_take,Nat.min_eq_left h]
 rw [<-this];exact(((List.take_sublist p (r.Rules.take q)).filter (nbR r i)).length_le)
theorem aXb (h:GB r l) (w:FrI l f) (hi:i<r.Rules.length): ∀(Q q:Nat) (x:fU),q<Q->Rch r i q->r.Rules[q]? =some x-> ∀t,den (EnW f (fZ (fK r i) l)) (mkN (MkR (fK r i) l (plR r i q)) x.When) t=den (EnW f (fZ r l)) (mkN (MkR r l q) x.When) t
 |0,q,x,A,_,_,t=>absurd A (Nat.not_lt_zero _)
 |Q+1,q,x,A,F,B,t=>by
  have z:=aFm h hi;obtain⟨_,d,G⟩:=aYq h.c hi F;rw [B]at d;obtain rfl:=oI d;have H:=(h.g.lg x (qS B)).1;refine bDk (E1:=EnW f (fZ (fK r i) l)) (E2:=EnW f (fZ r l)) (M1:=MkR (fK r i) l (plR r i q)) (M2:=MkR r l q) rfl rfl rfl (pRl (fK r i) (plR r i q)) t (λc k=>?_) (dN x.When) x.When (Nat.le_refl _) H (aEh z.c _ x G).2 t (Nat.le_refl _);unfold pRl at k;rw [Bool.or_eq_false_iff]at k;refine⟨λe u _=>?_,λe u _=>?_⟩
  ·have a:=k.1;rw [e,dT rfl,Bool.true_and,Bool.not_eq_false']at a;have C:ndF r i=true:=by
    cases hb:ndF r i
    ·have:(fK r i).Phases=[]:=if_neg (by rw [hb];decide);rw [this]at a;cases a
    ·rfl
   have I:(fK r i).Phases=r.Phases:=if_pos C;show mD _ (aAm (fK r i).Phases c.Name)=mD _ (aAm r.Phases c.Name);rw [I];exact phaseT_ps (ps_same C u) _
  ·have a:=k.2;rw [e,dT rfl,Bool.true_and,Bool.not_eq_false']at a;obtain⟨j,y,b,o⟩:=aDe.1 a;have D:j<plR r i q:=by
    have:=(gS.1 b).1;rw [List.length_take]at this;omega
   rw [List.getElem?_take_of_lt D]at b;obtain⟨p,J,v,K⟩:=aEv h.c hi b;have L:p<q:=by
    rcases Nat.lt_or_ge p q with c|c
    ·exact c
    ·have:=plR_mono (r:=r) (i:=i) c;omega
   have m1:c.Name∈((fK r i).Rules.take (plR r i q)).map fU.Name:=by
    rw [<-o];exact List.mem_map_of_mem (qS (by rw [List.getElem?_take_of_lt D];exact b))
   have m2:c.Name∈(r.Rules.take q).map fU.Name:=by
    rw [<-o];exact List.mem_map_of_mem (qS (by rw [List.getElem?_take_of_lt L];exact v))
   obtain⟨M,_,-,a2,a3,a4,a5⟩:=aWh (l:=l) m1;obtain⟨N,_,-,E,_,O,P⟩:=aWh (l:=l) m2;have R:M=j:=tV z.c a4 b (a5.trans o.symm);have S:N=p:=tV h.c O v (P.trans o.symm);rw [R]at a2;rw [S]at E;rw [a2,E];unfold aCs;show(at' ((EnW f (fZ (fK r i) l)).rl u) (j:Int)).getD 0=(at' ((EnW f (fZ r l)).rl u) (p:Int)).getD 0;rw [aHl z w b u,aHl h w v u,<-K,aXb h w hi Q p y (by omega) J v u]
def trD (r:Rules)(l:List Track)(i:Nat)(f:Nat->List gY)(t:Nat):Int:=match r.Rules[i]? with
 |some x=>den (EnW f (fZ r l)) (mkN (MkR r l i) x.When) t
 |none=>0
theorem aVw (h:chk r=some 0)(hi:i<r.Rules.length):(fK r i).Rules.length=plR r i i+1:=by
 obtain⟨x,b⟩: ∃x,r.Rules[i]? =some x:=⟨_,gE hi⟩;have:=(aIz h hi b).2 .base;show((r.Rules.take (i+1)).filter (nbR r i)).length=((r.Rules.take i).filter (nbR r i)).length+1;rw [mO b,List.filter_append,List.length_append,List.filter_cons_of_pos (by exact this)];rfl
theorem last_part (h:GB r l)(b:FrI l f)(hi:i<r.Rules.length)(t:Nat):at' ((EnW f (fZ (fK r i) l)).rl t) (((fK r i).Rules.length:Int)-1)=some (trD r l i f t):=by
 obtain⟨x,d,e⟩:=aYq h.c hi (.base);have j:=aFm h hi;rw [aVw h.c hi,show(((plR r i i+1:Nat):Int)-1)=((plR r i i:Nat):Int)by omega,aHl j b e t,aXb h b hi (i+1) i x (by omega) .base d t];unfold trD;rw [d]
theorem trD_at (h:GB r l)(c:FrI l f)(hi:i<r.Rules.length)(t:Nat):at' ((EnW f (fZ r l)).rl t) (i:Int)=some (trD r l i f t):=by
 obtain⟨x,b⟩: ∃x,r.Rules[i]? =some x:=⟨_,gE hi⟩;rw [aHl h c b t];unfold trD;rw [b]
end
def tbB (told:Int->Option (List gY))(z:Int):(Int×Int×(List Str)×Int×(List fG)×(List Nd)×(List Bool)->Option Int)->Int×Int×(List Str)×Int×(List fG)×(List Nd)×(List Bool)->Option Int:=λe ⟨h,c,j,k,o,p,q⟩=>
 gJ (decide (c<=z)) λt=>
 gK t
 (gB (told c) λu=>
 gB (Fcc (fA.mk j k o p q) u) λ⟨d,b⟩=>
 gJ (d.length:Int) λv=>
 gJ (IntKind.i64.wrap (v-1)) λw=>
 gB (at' d w) λx=>
 gJ (IntKind.i64.wrap (c+1)) λy=>
 e (x,y,b.phases,b.tracks,b.moves,b.rules,b.possible))
 (some h)
theorem tb1 (b:Int)(l:List Track):Fib b l=fF (tbB (λg=>Fd9 g l) b):=rfl
theorem tb2 (b:Int)(x:fC):Fiv b x=fF (tbB (λg=>Fd0 g x) b):=rfl
section
variable {r:Rules}{i:Nat}{l:List Track}{f:Nat->List gY}
def lastT (r:Rules)(l:List Track)(i:Nat)(f:Nat->List gY):Nat->Int
 |0=>0
 |k+1=>trD r l i f k
theorem bAv (h:GB r l) (b:FrI l f) (hi:i<r.Rules.length) {told:Int->Option (List gY)}{a:Int}{n:Nat} (x:0<=a) (y:a+n<=1000000000) (p: ∀k,k<n->told (a+(k:Int))=some (f k)):
  fF (tbB told (a+(n:Int)-1)) (0,a,(fZ (fK r i) l).phases,(fZ (fK r i) l).tracks,(fZ (fK r i) l).moves,(fZ (fK r i) l).rules,(fZ (fK r i) l).possible)=some (lastT r l i f n):=by
 have q:=aFm h hi;have z:=h.g.l;have t:((0:Int),a,(fZ (fK r i) l).phases,(fZ (fK r i) l).tracks,(fZ (fK r i) l).moves,(fZ (fK r i) l).rules,(fZ (fK r i) l).possible)=
   (λ(k:Nat)=>(lastT r l i f k,a+(k:Int),(runT f (fZ (fK r i) l) k).2.phases,(runT f (fZ (fK r i) l) k).2.tracks,(runT f (fZ (fK r i) l) k).2.moves,(runT f (fZ (fK r i) l) k).2.rules,(runT f (fZ (fK r i) l) k).2.possible)) 0:=by
  dsimp only;rw [show a+((0:Nat):Int)=a by omega];rfl
 rw [t];have e:(List.replicate n ()).length=n:=List.length_replicate;refine(xO (λ(k:Nat)=>(lastT r l i f k,a+(k:Int),(runT f (fZ (fK r i) l) k).2.phases,(runT f (fZ (fK r i) l) k).2.tracks,(runT f (fZ (fK r i) l) k).2.moves,(runT f (fZ (fK r i) l) k).2.rules,(runT f (fZ (fK r i) l) k).2.possible)) (List.replicate n ()) (some (lastT r l i f n)) (by omega) ?_ ?_)
 ·rintro v k _-j;rw [e]at j;have w:=aIy (f:=f) (aCz q) b.len k;obtain⟨n1,n2,_,_⟩:=aQt w (b.len k);have ll:(nxt (f k) (runT f (fZ (fK r i) l) k).2).1.length=(fK r i).Rules.length:=by rw [(aJb _ _).1,run_rl]
  have C:=aVw h.c hi;have D:plR r i i<=60:=by
   have:=List.length_filter_le (nbR r i) (r.Rules.take i);rw [List.length_take]at this;show((r.Rules.take i).filter (nbR r i)).length<=_;omega
  have o:=last_part h b hi k;change at' (nxt (f k) (runT f (fZ (fK r i) l) k).2).1 _=_ at o;unfold tbB;simp only [zH];rw [dT (by omega),zS,p k j,zC];unfold Fcc;have d:Fb5 (fA.mk (fA.mk (runT f (fZ (fK r i) l) k).2.phases (runT f (fZ (fK r i) l) k).2.tracks (runT f (fZ (fK r i) l) k).2.moves (runT f (fZ (fK r i) l) k).2.rules (runT f (fZ (fK r i) l) k).2.possible).phases
    (fA.mk (runT f (fZ (fK r i) l) k).2.phases (runT f (fZ (fK r i) l) k).2.tracks (runT f (fZ (fK r i) l) k).2.moves (runT f (fZ (fK r i) l) k).2.rules (runT f (fZ (fK r i) l) k).2.possible).tracks
    (fA.mk (runT f (fZ (fK r i) l) k).2.phases (runT f (fZ (fK r i) l) k).2.tracks (runT f (fZ (fK r i) l) k).2.moves (runT f (fZ (fK r i) l) k).2.rules (runT f (fZ (fK r i) l) k).2.possible).moves
    (fA.mk (runT f (fZ (fK r i) l) k).2.phases (runT f (fZ (fK r i) l) k).2.tracks (runT f (fZ (fK r i) l) k).2.moves (runT f (fZ (fK r i) l) k).2.rules (runT f (fZ (fK r i) l) k).2.possible).rules
    (fA.mk (runT f (fZ (fK r i) l) k).2.phases (runT f (fZ (fK r i) l) k).2.tracks (runT f (fZ (fK r i) l) k).2.moves (runT f (fZ (fK r i) l) k).2.rules (runT f (fZ (fK r i) l) k).2.possible).possible) (f k)=some (nxt (f k) (runT f (fZ (fK r i) l) k).2):=n1
  rw [d,zC,zC];dsimp only;rw [ll,wrap_i64 (by omega) (by omega),o,zC,wrap_i64 (by omega) (by omega),show a+(k:Int)+1=a+((k+1:Nat):Int)by omega];rfl
 ·intro v;rw [e];unfold tbB;simp only [zH];rw [qD (by omega),zK]
theorem aVv (h:GB r l):Fco r l=some (fZ r l):=by
 unfold Fco;rw [aUu h,zC]
def fL (l:List Track)(L:List (List gY))(k:Nat):List gY:=(L[k]?).getD (tel l 0 k)
structure aFx (l:List Track)(n:Nat)(L:List (List gY)):Prop where
 len:L.length=n
 row: ∀x∈L,x.length=l.length
 bd: ∀x∈L,∀y∈x,-1125899906842624<=y.N/\y.N<=1125899906842624
theorem fL_I (h:TK l) {n:Nat}{L:List (List gY)} (m:aFx l n L):FrI l (fL l L):=by
 have t:=tel_I h 0;refine⟨λk=>?_,λk=>?_⟩
 ·unfold fL
  cases hx:L[k]? with
  |none=>exact t.len k
  |some x=>exact m.row x (qS hx)
 ·unfold fL
  cases hx:L[k]? with
  |none=>exact t.bd k
  |some x=>exact λy b=>m.bd x (qS hx) y b
theorem fL_get {L:List (List gY)}{k:Nat}(b:k<L.length):L[k]? =some (fL l L k):=by
 unfold fL;rw [gE b];rfl
def trM (r:Rules)(l:List Track)(i:Nat)(L:List (List gY)):Int:=lastT r l i (fL l L) L.length
theorem aHk (h:GB r l) (hi:i<r.Rules.length) {a:Int}{n:Nat} (b:0<=a) (d:a+n<=4194304) {L:List (List gY)} (m:aFx l n L):
    Fcg (fC.mk (fK r i) l a (a+(n:Int)-1) L)=some (trM r l i L):=by
 have c:=m.len;unfold Fcg Fhg;dsimp only;rw [aVv (aFm h hi),zC,tb2,bAv h (fL_I h.t m) hi b (by omega) (λk _=>?_),zC,zC];unfold trM;rw [c];unfold Fd0;simp only [zH];rw [wrap_i64 (by omega) (by omega),show a+(k:Int)-a=(k:Int)by omega,yQ (fL_get (l:=l) (by omega)),zC]
theorem aOe (h:GB r l)(hi:i<r.Rules.length){n:Nat}(n1:1<=n)(N:n<=2000){L:List (List gY)}(m:aFx l n L):Fb4 r l L (i:Int)=some (trM r l i L):=by
 have O:=m.len;have D:=fL_I h.t m;unfold Fb4;rw [empty_eq h,zC];have w: ∃v:gG,Fjc L (0,(ev0 r l).r.Phases,(ev0 r l).r.Moves,(ev0 r l).r.Rules,(ev0 r l).names,(ev0 r l).dens,(ev0 r l).told,(ev0 r l).frames,(ev0 r l).phase,(ev0 r l).nodes,(ev0 r l).first,(ev0 r l).moves,(ev0 r l).rules)=
   some (v.r.Phases,v.r.Moves,v.r.Rules,v.names,v.dens,v.told,v.frames,v.phase,v.nodes,v.first,v.moves,v.rules)/\ ∃k x,at' v.rules (i:Int)=some k/\at' v.nodes k=some x/\x.now=trM r l i L:=by
  have q:=bT (body:=λd (s:Int×(List Str)×(List dH)×(List fU)×(List Str)×(List Int)×(List gY)×Int×(List Bool)×(List gI)×Int×(List Int)×(List Int))=>
    gJ (L.length:Int) λe=>
    gJ (decide (s.1<e)) λj=>
    gK j
    (gB (at' L s.1) λo=>
    gB (Fbm (gG.mk (Rules.mk s.2.1 s.2.2.1 s.2.2.2.1) s.2.2.2.2.1 s.2.2.2.2.2.1 s.2.2.2.2.2.2.1 s.2.2.2.2.2.2.2.1 s.2.2.2.2.2.2.2.2.1 s.2.2.2.2.2.2.2.2.2.1 s.2.2.2.2.2.2.2.2.2.2.1 s.2.2.2.2.2.2.2.2.2.2.2.1 s.2.2.2.2.2.2.2.2.2.2.2.2) o) λb=>
    gJ (IntKind.i64.wrap (s.1+1)) λp=>
    d (p,b.r.Phases,b.r.Moves,b.r.Rules,b.names,b.dens,b.told,b.frames,b.phase,b.nodes,b.first,b.moves,b.rules))
    (some (s.2.1,s.2.2.1,s.2.2.2.1,s.2.2.2.2.1,s.2.2.2.2.2.1,s.2.2.2.2.2.2.1,s.2.2.2.2.2.2.2.1,s.2.2.2.2.2.2.2.2.1,s.2.2.2.2.2.2.2.2.2.1,s.2.2.2.2.2.2.2.2.2.2.1,s.2.2.2.2.2.2.2.2.2.2.2.1,s.2.2.2.2.2.2.2.2.2.2.2.2)))
   (λ(k:Nat) (v:gG)=>((k:Int),v.r.Phases,v.r.Moves,v.r.Rules,v.names,v.dens,v.told,v.frames,v.phase,v.nodes,v.first,v.moves,v.rules)) L
   (λk v=>EvI r l (fL l L) k v/\(0<k-> ∃q x,at' v.rules (i:Int)=some q/\at' v.nodes q=some x/\x.now=lastT r l i (fL l L) k))
   (λz=> ∃v:gG,z=(v.r.Phases,v.r.Moves,v.r.Rules,v.names,v.dens,v.told,v.frames,v.phase,v.nodes,v.first,v.moves,v.rules)/\ ∃k x,at' v.rules (i:Int)=some k/\at' v.nodes k=some x/\x.now=trM r l i L) (by omega)
   (λG k v _ _ A B=>by
    obtain⟨E,n1,n2,_,_,H⟩:=next_6 h D B.1 (by omega);have C:Fbm (gG.mk (Rules.mk v.r.Phases v.r.Moves v.r.Rules) v.names v.dens v.told v.frames v.phase v.nodes v.first v.moves v.rules) (fL l L k)=some E:=n1;obtain⟨y,I⟩: ∃y,r.Rules[i]? =some y:=⟨_,gE hi⟩;obtain⟨q,x,a1,a2,a3⟩:=H i y I;rw [trD_at h D hi k]at a3;refine⟨E,⟨n2,λ_=>⟨q,x,a1,a2,(oI a3).symm⟩⟩,?_⟩;simp only [zH];rw [yP A,zS,yQ (fL_get (l:=l) A),zC,C,zC,fO A (by omega)])
   (λG v B=>by
    simp only [zH];rw [yR,zK];exact⟨_,rfl,v,rfl,B.2 (by omega)⟩) (ev0 r l) ⟨evI_zero h _,λc=>absurd c (Nat.lt_irrefl 0)⟩
  obtain⟨z,F,v,J,K⟩:=q;rw [J]at F;exact⟨v,F,K⟩
 obtain⟨v,M,q,x,a1,a2,a3⟩:=w;rw [M,zC];dsimp only;rw [a1,zC,a2,zC,a3]
end
def knR:List gY->Nat
 | []=>0
 |x::l=>(if x.Known=true then 1 else 0)+knR l
def knS:List (List gY)->Nat
 | []=>0
 |x::l=>knR x+knS l
theorem aRg: ∀a b,knR (a++b)=knR a+knR b
 | [],b=>by rw [List.nil_append,knR,Nat.zero_add]
 |x::a,b=>by rw [List.cons_append,knR,knR,aRg a b,Nat.add_assoc]
theorem aRf: ∀a b,knS (a++b)=knS a+knS b
 | [],b=>by rw [List.nil_append,knS,Nat.zero_add]
 |x::a,b=>by rw [List.cons_append,knS,knS,aRf a b,Nat.add_assoc]
theorem aTf: ∀a,knR a<=a.length
 | []=>Nat.le_refl _
 |x::a=>by have:=aTf a;rw [knR,List.length_cons];split<;>omega
theorem aZh {m:Nat}: ∀a:List (List gY),(∀x∈a,x.length<=m)->knS a<=a.length*m
 | [],_=>Nat.zero_le _
 |x::a,h=>by
  have b:=aTf x;have c:=h x List.mem_cons_self;have d:=aZh a λy e=>h y (List.mem_cons_of_mem _ e)
  rw [knS,List.length_cons,Nat.succ_mul,Nat.add_comm];exact Nat.add_le_add d (Nat.le_trans b c)
theorem spots_L2 {row:List gY}{g:Nat} (e:g<=1000000000) (h:row.length<=100000):Fga row (row.length:Int) ((g:Int),0)=some ((g+knR row:Nat):Int):=by
 unfold Fga;rw [show((g:Int),(0:Int))=(λ(k:Nat)=>(((g+knR (row.take k):Nat):Int),(k:Int))) 0 from rfl];refine(xO (λ(k:Nat)=>(((g+knR (row.take k):Nat):Int),(k:Int))) row (some ((g+knR (row.take row.length):Nat):Int)) (by omega) ?_ ?_).trans (by rw [List.take_length]);intro d k x b c;have:=aTf (row.take k);rw [List.length_take]at this;simp only [zH];rw [yP c,zS,yQ b,zC,fO c (by omega),mO b,aRg];cases hK:x.Known;rw [zK,zC];simp [knR,hK];rw [zS,zC,wrap_i64 (by omega) (by omega)];simp [knR,hK];rfl;intro d;simp only [zH];rw [yR,zK]
theorem rspots_L2 {row:List gY}{g:Nat}{X:List (List gY)} (e:g<=1000000000) (h:row.length<=100000):Fgg row X ((g:Int),0)=some (X,((g+knR row:Nat):Int)):=by
 unfold Fgg;rw [show((g:Int),(0:Int))=(λ(k:Nat)=>(((g+knR (row.take k):Nat):Int),(k:Int))) 0 from rfl];refine(xO (λ(k:Nat)=>(((g+knR (row.take k):Nat):Int),(k:Int))) row (some (X,((g+knR (row.take row.length):Nat):Int))) (by omega) ?_ ?_).trans (by rw [List.take_length]);intro d k x b c;have:=aTf (row.take k);rw [List.length_take]at this;simp only [zH];rw [yP c,zS,yQ b,zC,fO c (by omega),mO b,aRg];cases hK:x.Known;rw [zK,zC];simp [knR,hK];rw [zS,zC,wrap_i64 (by omega) (by omega)];simp [knR,hK];rfl;intro d;simp only [zH];rw [yR,zK]
theorem row_bd {n m:Nat}(b:n<=2000)(hm:m<=100000){k:Nat}(c:k<=n*m):k<=200000000:=Nat.le_trans c (Nat.mul_le_mul b hm)
theorem spots_ok {X:fC} (o:X.told.length<=2000) (e: ∀x∈X.told,x.length<=100000):Fen X=some ((knS X.told:Nat):Int):=by
 unfold Fen;simp only [zH];have d:Fgu X (X.told.length:Int) (0,0)=some ((knS X.told:Nat):Int):=by
  unfold Fgu;rw [show((0:Int),(0:Int))=(λ(k:Nat)=>(((knS (X.told.take k):Nat):Int),(k:Int))) 0 from rfl];refine(xO (λ(k:Nat)=>(((knS (X.told.take k):Nat):Int),(k:Int))) X.told (some ((knS (X.told.take X.told.length):Nat):Int)) (by omega) ?_ ?_).trans (by rw [List.take_length])
  ·intro j k x c h;have b:=row_bd (n:=(X.told.take k).length) (by rw [List.length_take];omega) (Nat.le_refl 100000) (aZh (X.told.take k) λx c=>e x (List.mem_of_mem_take c));simp only [zH];rw [yP h,zS,yQ c,zC,spots_L2 (by omega) (e x (qS c)),zC,fO h (by omega),mO c,aRf];simp [knS]
  ·intro j;simp only [zH];rw [yR,zK]
 rw [d,zC]
section
variable {r:Rules}{i:Nat}{l:List Track}{a:Int}{n:Nat}
def kQ (l:List Track)(a:Int)(n:Nat):List (List gY):=(List.range n).map (tel l a)
theorem aLl (l:List Track)(a:Int)(n:Nat):kQ l a (n+1)=kQ l a n++[tel l a n]:=by
 unfold kQ;rw [List.range_succ,List.map_append];rfl
theorem aSe (h:TK l):aFx l n (kQ l a n):=by
 have t:=tel_I h a;refine⟨by simp [kQ],λx b=>?_,λx b=>?_⟩;obtain⟨k,-,rfl⟩:=List.mem_map.1 b;exact t.len k;obtain⟨k,-,rfl⟩:=List.mem_map.1 b;exact λy c=>t.bd k y c
theorem bBl {b:Type}{p:List b}{x:b}(h:p.length<=1000000000):app' 24 p [x]=some (p++[x]):=by
 unfold app';rw [if_pos ⟨by rw [maxLen_eq];simp;omega,by simp;omega⟩]
theorem told_L1 (h:GB r l) (j:0<=a) (o:n<=2000) (p:a+n<=4194304):Ffr l (a+(n:Int)-1) (a,[])=some (kQ l a n):=by
 unfold Ffr;have c:(a,([]:List (List gY)))=(λ(k:Nat)=>(a+(k:Int),kQ l a k)) 0:=by
  dsimp only;rw [show a+((0:Nat):Int)=a by omega];rfl
 rw [c];have b:(List.replicate n ()).length=n:=List.length_replicate;refine(xO (λ(k:Nat)=>(a+(k:Int),kQ l a k)) (List.replicate n ()) (some (kQ l a n)) (by omega) ?_ ?_)
 ·rintro d k _-e;rw [b]at e;have q:(kQ l a k).length=k:=by simp [kQ]
  simp only [zH];unfold Fb8;rw [dT (by omega),zS,aOs l _ h.t (by omega) (by omega),zC,zC,bBl (by omega),zC,wrap_i64 (by omega) (by omega),show a+(k:Int)+1=a+((k+1:Nat):Int)by omega,aLl];rfl
 ·intro d;rw [b];simp only [zH];rw [qD (by omega),zK]
theorem aXk (h:GB r l)(b:aIs l=some 0)(c:okL uK l)(k:Nat)(d:0<=a)(j:a+k<=4194303):Fef l (a+(k:Int))=some (tel l a k,0):=by
 unfold Fef Fal;rw [aBm l c,b,zC];simp only [zH];rw [qD (by simp),zK];have e:(decide (a+(k:Int)<0)||decide ((4194303:Int)<a+(k:Int)))=false:=by rw [qD (by omega),qD (by omega)];rfl
 rw [qD (by omega: ¬a+(k:Int)<0)];simp only [zK,zC];rw [qD (by omega: ¬(4194303:Int)<a+(k:Int))];simp only [zK];rw [aWl h k d j,zC]
theorem rtold_L1 (h:GB r l) (e:aIs l=some 0) (j:okL uK l) (o:0<=a) (y:n<=2000) (z:a+n<=4194304):
  Fgv l (a+(n:Int)-1) ([],0,a)=some (kQ l a n,((knS (kQ l a n):Nat):Int)):=by
 have c:=h.t.n;unfold Fgv;have p:(([]:List (List gY)),(0:Int),a)=(λ(k:Nat)=>(kQ l a k,((knS (kQ l a k):Nat):Int),a+(k:Int))) 0:=by
  dsimp only;rw [show a+((0:Nat):Int)=a by omega];rfl
 rw [p];have d:(List.replicate n ()).length=n:=List.length_replicate;refine(xO (λ(k:Nat)=>(kQ l a k,((knS (kQ l a k):Nat):Int),a+(k:Int))) (List.replicate n ()) _ (by omega) ?_ ?_)
 ·rintro q k _-v;rw [d]at v;have m:=aSe (a:=a) (n:=k) h.t;have A:=m.len;have b:=row_bd (n:=(kQ l a k).length) (by omega) (Nat.le_refl 100000) (aZh (kQ l a k) λx w=>by rw [m.row x w];exact c);simp only [zH];rw [dT (by omega),zS,aXk h e j k o (by omega),zC,bBl (by omega),zC,rspots_L2 (by omega) (by rw [bBt];exact c),zC,wrap_i64 (by omega) (by omega),show a+(k:Int)+1=a+((k+1:Nat):Int)by omega,aLl,aRf];simp [knS]
 ·intro q;rw [d];simp only [zH];rw [qD (by omega),zK]
def inS (r:Rules)(l:List Track)(i:Nat)(a tr:Int)(L:List (List gY))(t k:Nat)(s:List kX×List gY):List kX×List gY:=
 match s.2[k]?,l[k]? with
 |some x,some y=>if x.Known=true then if trM r l i (L.set t (s.2.set k ⟨0,false⟩))=tr then(s.1,s.2.set k ⟨0,false⟩)else(s.1++[⟨y.Name,a+(t:Int)⟩],s.2)else s
 |_,_=>s
def inK (r:Rules)(l:List Track)(i:Nat)(a tr:Int)(L:List (List gY))(t:Nat)(s:List kX×List gY):Nat->List kX×List gY
 |0=>s
 |k+1=>inS r l i a tr L t k (inK r l i a tr L t s k)
def rdT (r:Rules)(l:List Track)(i:Nat)(a tr:Int)(b:List (List gY)):Nat->List kX×List (List gY)
 |0=>([],b)
 |t+1=>((inK r l i a tr (rdT r l i a tr b t).2 t ((rdT r l i a tr b t).1,((rdT r l i a tr b t).2[t]?).getD []) l.length).1,
   (rdT r l i a tr b t).2.set t (inK r l i a tr (rdT r l i a tr b t).2 t ((rdT r l i a tr b t).1,((rdT r l i a tr b t).2[t]?).getD []) l.length).2)
structure aUz (l:List Track)(c:List gY):Prop where
 len:c.length=l.length
 bd: ∀y∈c,-1125899906842624<=y.N/\y.N<=1125899906842624
theorem aUz.set {c:List gY}(h:aUz l c)(k:Nat):aUz l (c.set k ⟨0,false⟩):=by
 refine⟨by rw [List.length_set];exact h.len,λy b=>?_⟩;rcases List.mem_or_eq_of_mem_set b with b|rfl
 ·exact h.bd y b
 ·exact⟨by decide,by decide⟩
theorem aFx.set {L:List (List gY)} (m:aFx l n L) {c:List gY} (h:aUz l c) (t:Nat):aFx l n (L.set t c):=by
 refine⟨by rw [List.length_set];exact m.len,λx b=>?_,λx b=>?_⟩
 ·rcases List.mem_or_eq_of_mem_set b with b|rfl
  ·exact m.row x b
  ·exact h.len
 ·rcases List.mem_or_eq_of_mem_set b with b|rfl
  ·exact m.bd x b
  ·exact h.bd
theorem aFx.at {L:List (List gY)}(m:aFx l n L){t:Nat}(b:t<n):L[t]? =some ((L[t]?).getD [])/\aUz l ((L[t]?).getD []):=by
 have c:=m.len;have e:L[t]? =some L[t]:=gE (by omega);rw [e];exact⟨rfl,m.row _ (qS e),m.bd _ (qS e)⟩
theorem bAx {tr:Int}{L:List (List gY)}{t:Nat}{s:List kX×List gY} (h:aUz l s.2) (e: ∀x∈s.1,x.Track.length<=30) (j: ∀y∈l,y.Name.length<=30): ∀k,aUz l (inK r l i a tr L t s k).2/\(inK r l i a tr L t s k).1.length<=s.1.length+k/\ ∀x∈(inK r l i a tr L t s k).1,x.Track.length<=30
 |0=>⟨h,Nat.le_refl _,e⟩
 |k+1=>by
  obtain⟨b,o,c⟩:=bAx (tr:=tr) (L:=L) (t:=t) h e j k;rw [inK];generalize inK r l i a tr L t s k=u at b o c;unfold inS;split
  ·rename_i x y _ p;split
   ·split
    ·exact⟨b.set k,by dsimp only;omega,c⟩
    ·refine⟨b,by dsimp only;rw [List.length_append,List.length_singleton];omega,λz d=>?_⟩;rcases mA.1 d with d|d
     ·exact c z d
     ·obtain rfl:=mS.1 d;exact j y (qS p)
   ·exact⟨b,by omega,c⟩
  ·exact⟨b,by omega,c⟩
theorem aTk {tr:Int}{b:List (List gY)}(m:aFx l n b)(c: ∀y∈l,y.Name.length<=30): ∀t,t<=n->aFx l n (rdT r l i a tr b t).2/\(rdT r l i a tr b t).1.length<=t*l.length/\ ∀x∈(rdT r l i a tr b t).1,x.Track.length<=30
 |0,_=>⟨m,Nat.zero_le _,λx e=>by cases e⟩
 |t+1,u=>by
  obtain⟨d,h,j⟩:=aTk m c t (by omega);have k:=(d.at (by omega:t<n)).2;obtain⟨o,p,q⟩:=bAx (r:=r) (i:=i) (a:=a) (tr:=tr) (L:=(rdT r l i a tr b t).2) (t:=t) (s:=((rdT r l i a tr b t).1,((rdT r l i a tr b t).2[t]?).getD [])) k j c l.length;rw [rdT];refine⟨d.set o t,?_,q⟩;rw [Nat.succ_mul];exact Nat.le_trans p (Nat.add_le_add_right h _)
theorem set2 {b:Type}{L:List b}{t:Nat}{x:b}(h:t<L.length):set' L (t:Int) x=some (L.set t x):=by
 unfold set';rw [if_pos ⟨by omega,by omega⟩,Int.toNat_natCast]
theorem reduce_L2 (h:GB r l) (hi:i<r.Rules.length) (C:0<=a) (_:1<=n) (_:n<=2000) (D:a+n<=4194304) {tr:Int}{L:List (List gY)} (m:aFx l n L) {t:Nat} (I:t<n) {S:List kX} (J:S.length<=200000000) (o: ∀x∈S,x.Track.length<=30) (E: ∀y∈l,y.Name.length<=30) {X:List (List gY)}
  {c:List gY} (w:aUz l c):
  Fhe (fC.mk (fK r i) l a (a+(n:Int)-1) X) tr (t:Int) L (c.length:Int) (S,0,c)=some ((inK r l i a tr L t (S,c) l.length).1,L.set t (inK r l i a tr L t (S,c) l.length).2):=by
 have K:=h.t.n;have b:=w.len;unfold Fhe;rw [show(S,(0:Int),c)=(λ(k:Nat)=>((inK r l i a tr L t (S,c) k).1,(k:Int),(inK r l i a tr L t (S,c) k).2)) 0 from rfl];refine xO (λ(k:Nat)=>((inK r l i a tr L t (S,c) k).1,(k:Int),(inK r l i a tr L t (S,c) k).2)) l _ (by omega) ?_ ?_
 ·intro F k y z e;obtain⟨p,A,G⟩:=bAx (r:=r) (i:=i) (a:=a) (tr:=tr) (L:=L) (t:=t) (s:=(S,c)) w o E k;have q:=m.len;rw [inK];generalize inK r l i a tr L t (S,c) k=u at p A G;dsimp only at A;have l1:=p.len;obtain⟨x,B⟩: ∃x,u.2[k]? =some x:=⟨_,gE (by omega)⟩;have v:=aHk h hi C D (m.set (p.set k) t);unfold inS;rw [B,z];simp only [zH];rw [b,yP e,zS,yQ B,zC]
  cases hK:x.Known
  ·rw [Bool.not_false,zS,zC,fO e (by omega),if_neg (by decide)]
  ·rw [Bool.not_true,zK,set2 (by omega),zC,set2 (by omega),zC];have d:Fcg (fC.mk (Rules.mk (fC.mk (fK r i) l a (a+(n:Int)-1) X).r.Phases (fC.mk (fK r i) l a (a+(n:Int)-1) X).r.Moves (fC.mk (fK r i) l a (a+(n:Int)-1) X).r.Rules) (fC.mk (fK r i) l a (a+(n:Int)-1) X).l (fC.mk (fK r i) l a (a+(n:Int)-1) X).first (fC.mk (fK r i) l a (a+(n:Int)-1) X).number (L.set t (u.2.set k ⟨0,false⟩)))=some (trM r l i (L.set t (u.2.set k ⟨0,false⟩))):=v;rw [d,zC,if_pos rfl]
   by_cases j:trM r l i (L.set t (u.2.set k ⟨0,false⟩))=tr
   ·rw [qD (by simpa using j),zK,zC,zC,fO e (by omega),if_pos j]
   ·rw [dT j,zS,yQ z,zC,wrap_i64 (by show _<=a+(t:Int);omega) (by show a+(t:Int)<=_;omega),bBl (by omega),zC,zC,fO e (by omega),if_neg j]
 ·intro F;have q:=m.len;simp only [zH];rw [b,yR,zK,set2 (by omega),zC]
theorem aYr (h:GB r l) (hi:i<r.Rules.length) (J:0<=a) (n1:1<=n) (B:n<=2000) (K:a+n<=4194304) {tr:Int}{L:List (List gY)} (m:aFx l n L) {t:Nat} (C:t<n) {S:List kX} (M:S.length<=200000000) (e: ∀x∈S,x.Track.length<=30) (D: ∀y∈l,y.Name.length<=30):
  Ff1 r l a (i:Int) tr (t:Int) (S,0,L)=some ((inK r l i a tr L t (S,(L[t]?).getD []) l.length).1,L.set t (inK r l i a tr L t (S,(L[t]?).getD []) l.length).2):=by
 have N:=h.t.n;obtain⟨q,j⟩:=m.at C;generalize (L[t]?).getD []=c at q j⊢;have v:=j.len;have E:=m.len;unfold Ff1;have F:L=L.set t c:=by
  have:=(gS.1 q).2;rw [<-this,List.set_getElem_self]
 rw [show(S,(0:Int),L)=(λ(k:Nat)=>((inK r l i a tr L t (S,c) k).1,(k:Int),L.set t (inK r l i a tr L t (S,c) k).2)) 0 by dsimp only;rw [inK,<-F];rfl];refine xO (λ(k:Nat)=>((inK r l i a tr L t (S,c) k).1,(k:Int),L.set t (inK r l i a tr L t (S,c) k).2)) l _ (by omega) ?_ ?_
 ·intro G k y w b;obtain⟨o,z,H⟩:=bAx (r:=r) (i:=i) (a:=a) (tr:=tr) (L:=L) (t:=t) (s:=(S,c)) j e D k;rw [inK];generalize inK r l i a tr L t (S,c) k=u at o z H;dsimp only at z;have l1:=o.len;obtain⟨x,A⟩: ∃x,u.2[k]? =some x:=⟨_,gE (by omega)⟩;have p:=aOe h hi n1 B (m.set (o.set k) t);have I:at' (L.set t u.2) (t:Int)=some u.2:=yQ (List.getElem?_set_self (by omega));unfold inS;rw [A,w];simp only [zH];rw [yP b,zS,I,zC,yQ A,zC]
  cases hK:x.Known
  ·rw [Bool.not_false,zS,zC,fO b (by omega),if_neg (by decide)]
  ·rw [Bool.not_true,zK,set2 (by omega),zC,set2 (by rw [List.length_set];omega),zC,List.set_set,p,zC,if_pos rfl]
   by_cases d:trM r l i (L.set t (u.2.set k ⟨0,false⟩))=tr
   ·rw [qD (by simpa using d),zK,zC,set2 (by rw [List.length_set];omega),zC,zC,List.set_set,fO b (by omega),if_pos d]
   ·rw [dT d,zS,yQ w,zC,wrap_i64 (by omega) (by omega),bBl (by omega),zC,zC,fO b (by omega),if_neg d]
 ·intro G;simp only [zH];rw [yR,zK]
theorem aMc {t m:Nat}(b:t<=2000)(hm:m<=100000){k:Nat}(c:k<=t*m):k<=200000000:=Nat.le_trans c (Nat.mul_le_mul b hm)
theorem aWo (h:GB r l) (hi:i<r.Rules.length) (u:0<=a) (n1:1<=n) (v:n<=2000) (w:a+n<=4194304) (tr:Int) {b:List (List gY)} (m:aFx l n b) (c: ∀y∈l,y.Name.length<=30):
  (∃X,Fcx (fC.mk (fK r i) l a (a+(n:Int)-1) b) tr=some ((rdT r l i a tr b n).1,X))/\Fh1 r l a (i:Int) tr ([],0,b)=some (rdT r l i a tr b n).1:=by
 have z:=h.t.n;have ml:=m.len;constructor
 ·unfold Fcx;simp only [zH];have j:Ff6 (fC.mk (fK r i) l a (a+(n:Int)-1) b) tr (b.length:Int) ([],0,b)=some (rdT r l i a tr b n):=by
   unfold Ff6;rw [show(([]:List kX),(0:Int),b)=(λ(t:Nat)=>((rdT r l i a tr b t).1,(t:Int),(rdT r l i a tr b t).2)) 0 from rfl];refine(xO (λ(t:Nat)=>((rdT r l i a tr b t).1,(t:Int),(rdT r l i a tr b t).2)) b (some ((rdT r l i a tr b b.length).1,(rdT r l i a tr b b.length).2)) (by omega) ?_ ?_).trans (by rw [ml])
   ·intro k t x A e;obtain⟨d,o,p⟩:=aTk (r:=r) (i:=i) (a:=a) (tr:=tr) m c t (by omega);obtain⟨B,C⟩:=d.at (by omega:t<n);simp only [zH];rw [yP e,zS,yQ B,zC,reduce_L2 h hi u n1 v w d (by omega) (aMc (by omega) z o) p c C,zC,fO e (by omega),rdT]
   ·intro k;simp only [zH];rw [yR,zK]
  rw [j,zC];exact⟨_,rfl⟩
 ·unfold Fh1;rw [show(([]:List kX),(0:Int),b)=(λ(t:Nat)=>((rdT r l i a tr b t).1,(t:Int),(rdT r l i a tr b t).2)) 0 from rfl];refine(xO (λ(t:Nat)=>((rdT r l i a tr b t).1,(t:Int),(rdT r l i a tr b t).2)) b (some (rdT r l i a tr b b.length).1) (by omega) ?_ ?_).trans (by rw [ml])
  ·intro k t x A e;obtain⟨d,o,p⟩:=aTk (r:=r) (i:=i) (a:=a) (tr:=tr) m c t (by omega);have q:=d.len;simp only [zH];rw [dT (by omega),zS,aYr h hi u n1 v w d (by omega) (aMc (by omega) z o) p c,zC,fO e (by omega),rdT]
  ·intro k;have q:=(aTk (r:=r) (i:=i) (a:=a) (tr:=tr) m c b.length (by omega)).1.len;simp only [zH];rw [qD (by omega),zK]
end
theorem lacks_L2 (ns:List Str) (l:List Track) (b:l.length<=9223372036854775807) {i:Nat}{s:Str} (e:ns[i]? =some s):Fgt ns l (i:Int) (false,0)=some (l.any λt=>decide (t.Name=s)):=by
 unfold Fgt;refine(xO (λ(k:Nat)=>((l.take k).any (λt=>decide (t.Name=s)),(k:Int))) l _ b ?_ ?_);intro h k x c d;have j:l.take (k+1)=l.take k++[x]:=by rw [List.take_add_one,c];rfl
 simp only [zH];rw [yP d,zS,yQ c,j,List.any_append,fO d b];cases(l.take k).any (λt=>decide (t.Name=s));rw [zK,zC,yQ e,zC,zC,Bool.false_or];simp;rw [zS,zC,Bool.true_or];intro h;simp only [zH];rw [yR,zK,List.take_length]
theorem lacks_eq (ns:List Str) (l:List Track) (d:ns.length<=9223372036854775807) (e:l.length<=9223372036854775807):Feh ns l=some (if ns.all (λs=>l.any λt=>decide (t.Name=s))=true then 0 else 4):=by
 unfold Feh;simp only [xE];unfold Fim;rw [yZ ns (λ_ s=>if (l.any λt=>decide (t.Name=s))=true then none else some (some 4)) (some 0) d ?_ ?_]
 ·have c: ∀(b:List Str) (i:Nat),dU (λ_ s=>if (l.any λt=>decide (t.Name=s))=true then none else some (some (4:Int))) (some 0) b i=some (if b.all (λs=>l.any λt=>decide (t.Name=s))=true then 0 else 4):=by
   intro b
   induction b with
   |nil=>intro i;rfl
   |cons s b h=>
    intro i;rw [dU,List.all_cons]
    cases(l.any λt=>decide (t.Name=s))
    ·rfl
    ·simpa using h (i+1)
  rw [c]
 ·intro j i x k hi;simp only [zH,xE];rw [yP hi,zS,lacks_L2 ns l e k,zC,fO hi d]
  cases(l.any λt=>decide (t.Name=x))<;>rfl
 ·intro j;simp only [zH];rw [yR,zK]
theorem aXj:Fhf=some true:=by kernel_rfl
theorem aIj {r:Rules} (s:Str) (b:r.Rules.length<=9223372036854775807): ∃n,Fdh r s=some n/\Faf r s=some n/\(0<=n-> ∃j:Nat,n=(j:Int)/\j<r.Rules.length):=by
 obtain⟨n,e,c⟩:=aDg (λy:fU=>decide (y.Name=s)) r.Rules 0;refine⟨n,?_,?_,?_⟩
 ·unfold Fdh Fhp;simp only [zH,xE];unfold Fiq;rw [yZ r.Rules (λi x=>if decide (x.Name=s)=true then some (some (i:Int))else none) (some (-1)) b ?_ ?_,e,zC]
  ·intro k i x d hi;simp only [zH,Ff4];rw [yP hi,zS,yQ d,zC,zC,fO hi b]
   cases decide (x.Name=s)<;>rfl
  ·intro k;simp only [zH];rw [yR];rfl
 ·unfold Faf;simp only [xE];unfold Fek;rw [yZ r.Rules (λi x=>if decide (x.Name=s)=true then some (some (i:Int))else none) (some (-1)) b ?_ ?_,e]
  ·intro k i x d hi;simp only [zH];rw [yP hi,zS,yQ d,zC,fO hi b]
   cases decide (x.Name=s)<;>rfl
  ·intro k;simp only [zH];rw [yR];rfl
 ·intro _;rcases c with ⟨c,-⟩|⟨j,c,⟨x,h,-⟩,-⟩
  ·omega
  ·exact⟨j,by omega,(gS.1 h).1⟩
theorem aGz {b:Type}(p:b->Bool): ∀(l:List b) (i:Nat),pU (λ_ y=>p y) l i=l.any p
 | [],_=>rfl
 |x::l,i=>by rw [pU,aGz p l,List.any_cons]
theorem has_track (l:List Track) (s:Str) (b:l.length<=9223372036854775807):Fey l s=some (l.any λt=>decide (t.Name=s)):=by
 obtain⟨n,c,d⟩:=aJc (λ(_:Nat) (y:Track)=>decide (y.Name=s)) l 0;have e:Ffi l s=some n:=by
  unfold Ffi;simp only [zH,xE];unfold Fje;rw [<-c];refine yZ l _ _ b ?_ ?_
  ·intro h i x j hi;unfold Fhh;simp only [zH];rw [yP hi,zS,yQ j,zC,zC,fO hi b]
   cases decide (x.Name=s)<;>rfl
  ·intro h;simp only [zH];rw [yR];rfl
 unfold Fey;rw [e];simp only [zH,zC,d];rw [aGz (λy:Track=>decide (y.Name=s))]
theorem aXt (ns:List Str) (l:List Track) (b:ns.length<=9223372036854775807) (c:l.length<=9223372036854775807):Fe4 ns l=some (!ns.all λs=>l.any λt=>decide (t.Name=s)):=by
 obtain⟨n,d,h⟩:=aJc (λ(_:Nat) (s:Str)=> !l.any λt=>decide (t.Name=s)) ns 0;have e:Fdt ns l=some n:=by
  unfold Fdt;simp only [zH,xE];unfold Fi5;rw [<-d];refine yZ ns _ _ b ?_ ?_
  ·intro j i x k hi;unfold Ffk;simp only [zH];rw [yP hi,zS,yQ k,zC,has_track l x c,zC,zC,fO hi b]
   cases(l.any λt=>decide (t.Name=x))<;>rfl
  ·intro j;simp only [zH];rw [yR];rfl
 unfold Fe4;rw [e];simp only [zH,zC,h];rw [aGz (λs:Str=> !l.any λt=>decide (t.Name=s))]
 congr 1
 induction ns with
 |nil=>rfl
 |cons x _ _=>
  rw [List.any_cons,List.all_cons,Bool.not_and,<-List.not_all_eq_any_not]
def frE (a b:Int):Int:=if a<0\/b<a\/4194304<=b then 9 else if 2000<b-a+1 then 3 else 0
theorem frames_eq {a b:Int} (_:i64 a) (_:i64 b):Fdx a b=some (frE a b):=by
 unfold Fdx frE;simp only [zH];by_cases c:a<0;rw [if_pos (.inl c),dT c];rfl;by_cases c2:b<a;rw [if_pos (.inr (.inl c2)),qD c,dT c2];rfl;by_cases c3:4194304<=b;rw [if_pos (.inr (.inr c3)),qD c,qD c2,dT c3];rfl;rw [if_neg (by omega),qD c,qD c2,qD c3,wrap_i64 (n:=b-a) (by omega) (by omega),wrap_i64 (by omega) (by omega)];by_cases c4:2000<b-a+1;rw [if_pos c4,dT c4];rfl;rw [if_neg c4,qD c4];rfl
section
variable {r:Rules}{l:List Track}
theorem truthOf_M (h:GB r l) {i:Nat} (hi:i<r.Rules.length) {a:Int}{n:Nat} (b:0<=a) (j:a+n<=4194304):Fev (fK r i) l a (a+(n:Int)-1)=some (trM r l i (kQ l a n)):=by
 have m:=aSe (a:=a) (n:=n) h.t;have c:=m.len;unfold Fev Fgb;rw [aVv (aFm h hi),zC,tb1,bAv h (fL_I h.t m) hi b (by omega) (λk d=>?_),zC,zC]
 ·unfold trM;rw [c]
 ·unfold Fd9 Fb8;rw [aOs l _ h.t (by omega) (by omega),zC,zC];have e:(kQ l a n)[k]? =some (tel l a k):=by
   unfold kQ;rw [List.getElem?_map,List.getElem?_range d];rfl
  unfold fL;rw [e];rfl
theorem aIk (h:aMk l=0): ∀y∈l,y.Name.length<=30:=by
 intro y b;obtain⟨j,c⟩:=List.getElem?_of_mem b;exact aCc ((aLb l j y).1 (((aJx l).1 h).2 j y c)).1
theorem aSt (k:okR r) (o:okL uK l) (s:Str) {a b:Int} (B:i64 a) (C:i64 b):
  ∃(S:List kX) (t e:Int),Fdu r l s a b=some (S,t,e)/\Feb r l s a b=some (S,t,e)/\S.length<=200000000/\ ∀x∈S,x.Track.length<=30:=by
 obtain⟨e,p⟩:=aLv r;unfold Fdu Feb;rw [aKg r k,aPj r k,p,zC,zC];simp only [zH]
 by_cases z:e=0
 rotate_left
 ·rw [dT z,zS,zS];exact⟨[],0,e,rfl,rfl,Nat.zero_le _,λx d=>by cases d⟩
 subst z;have g:=vT k p;have L:=g.l;rw [qD (by simp),zK,zK,aKs l o,aBm l o,aRb,zC,zC]
 by_cases y:aMk l=0
 rotate_left
 ·rw [dT y,zS,zS];exact⟨[],0,aMk l,rfl,rfl,Nat.zero_le _,λx d=>by cases d⟩
 obtain⟨n,n1,n2,D⟩:=aIj s (by omega:r.Rules.length<=9223372036854775807);have M:=aTq g;rw [qD (by simpa using y),zK,zK,n1,n2,zC,zC,aOv k p,zC];dsimp only;rw [aXt _ _ (by omega) o.1,zC]
 by_cases u:n<0
 ·rw [dT u,zS,zS,zC,zS];exact⟨[],0,4,rfl,rfl,Nat.zero_le _,λx d=>by cases d⟩
 rw [qD u,zK,zK,zC,aXx g,zC,lacks_eq _ _ (by omega) o.1,zC]
 cases c2:(aEr r).all (λs=>l.any λt=>decide (t.Name=s))
 ·simp only [Bool.not_false,zS];rw [if_neg (by decide),dT (by decide),zS];exact⟨[],0,4,rfl,rfl,Nat.zero_le _,λx d=>by cases d⟩
 have j:GB r l:=both_gb k (by unfold bothE;rw [p];simp [y,c2]);simp only [Bool.not_true,zK];rw [if_pos trivial,qD (by simp),zK,frames_eq B C,zC];obtain⟨i,rfl,hi⟩:=D (by omega)
 -- the frames
 by_cases c3:a<0\/b<a\/4194304<=b
 ·have E:frE a b=9:=if_pos c3;rw [E,dT (by decide),zS];refine⟨[],0,9,rfl,?_,Nat.zero_le _,λx d=>by cases d⟩
  by_cases d1:a<0
  ·rw [dT d1];rfl
  ·by_cases d2:b<a
   ·rw [qD d1,dT d2];rfl
   ·rw [qD d1,qD d2,dT (by omega:(4194303:Int)<b)];rfl
 have d1: ¬a<0:=λc=>c3 (.inl c)
 have d2: ¬b<a:=λc=>c3 (.inr (.inl c))
 have d3: ¬4194304<=b:=λc=>c3 (.inr (.inr c))
 rw [qD d1,qD d2,qD (by omega: ¬(4194303:Int)<b)];simp only [zK,zC];rw [wrap_i64 (n:=b-a) (by omega) (by omega),wrap_i64 (n:=b-a+1) (by omega) (by omega)]
 by_cases c4:2000<b-a+1
 ·have F:frE a b=3:=by unfold frE;rw [if_neg c3,if_pos c4]
  rw [F,dT (by decide),dT c4,zS,zS];exact⟨[],0,3,rfl,rfl,Nat.zero_le _,λx d=>by cases d⟩
 have G:frE a b=0:=by unfold frE;rw [if_neg c3,if_neg c4]
 obtain⟨m,hm⟩: ∃m:Nat,b=a+(m:Int)-1:=⟨(b-a+1).toNat,by omega⟩;subst hm;have m1:1<=m:=by omega
 have m2:m<=2000:=by omega
 have m3:a+(m:Int)<=4194304:=by omega
 have h:0<=a:=by omega
 have H:aIs l=some 0:=by rw [aRb,y]
 have mt:=aSe (a:=a) (n:=m) j.t;have I:=mt.len;have v:=j.t.n;rw [G,qD (by simp),qD c4,zK,zK,bCu g hi,zC,truthOf_M j hi h m3,zC,rtold_L1 j H o h m2 m3,zC];dsimp only;rw [aOe j hi m1 m2 mt,zC]
 by_cases c5:trM r l i (kQ l a m)=0
 ·rw [dT c5,zS,zS];exact⟨[],0,11,rfl,rfl,Nat.zero_le _,λx d=>by cases d⟩
 rw [qD c5,zK,zK,told_L1 j h m2 m3,zC,spots_ok (by show(kQ l a m).length<=_;omega) (λx d=>by rw [mt.row x d];exact v),zC];dsimp only
 by_cases w:(2000:Int)<((knS (kQ l a m):Nat):Int)
 ·rw [dT w,zS,zS];exact⟨[],0,3,rfl,rfl,Nat.zero_le _,λx d=>by cases d⟩
 obtain⟨⟨X,J⟩,K⟩:=aWo j hi h m1 m2 m3 (trM r l i (kQ l a m)) mt (aIk y);have A:=aTk (r:=r) (i:=i) (a:=a) (tr:=trM r l i (kQ l a m)) mt (aIk y) m (Nat.le_refl _);have q:Fcx (fC.mk (Rules.mk (fK r i).Phases (fK r i).Moves (fK r i).Rules) l a (a+(m:Int)-1) (kQ l a m)) (trM r l i (kQ l a m))=some ((rdT r l i a (trM r l i (kQ l a m)) (kQ l a m) m).1,X):=J;rw [qD w,zK,zK,q,zC,K,zC];exact⟨_,_,0,rfl,rfl,aMc m2 v A.2.1,A.2.2⟩
theorem aTy (b:okR r) (s:Str): ∃(L:List Str) (e:Int),Fc5 r s=some (L,e)/\Fe0 r s=some (L,e)/\L.length<=48000/\ ∀x∈L,x.length<=30:=by
 obtain⟨e,c⟩:=aLv r;unfold Fc5 Fe0;rw [aKg r b,aPj r b,c,zC,zC];simp only [zH]
 by_cases z:e=0
 rotate_left
 ·rw [dT z,zS,zS];exact⟨[],e,rfl,rfl,Nat.zero_le _,λx d=>by cases d⟩
 subst z;have g:=vT b c;have q:=g.l;obtain⟨n,n1,n2,k⟩:=aIj s (by omega:r.Rules.length<=9223372036854775807);rw [qD (by simp),zK,zK,n1,n2,zC,zC]
 by_cases h:n<0
 ·rw [dT h,zS,zS];exact⟨[],4,rfl,rfl,Nat.zero_le _,λx d=>by cases d⟩
 obtain⟨i,rfl,hi⟩:=k (by omega);obtain⟨o,p⟩:=needed_eq b c hi;have j:=part_good b c hi;rw [qD h,zK,zK,o,p,zC];exact⟨_,0,rfl,rfl,aTq j,aZl j⟩
end
theorem ink_Spots {S:List kX} (k:S.length<=200000000) (o: ∀x∈S,x.Track.length<=30):Gr (Fcv (gX.mk []) S) 20000000000:=by
 unfold Fcv;simp only [zH];refine(aJq (b:=0) (gX.mk []) _ (Nat.le_refl _) (by decide)).bind λ_ p=>?_;unfold Fiu;refine bT (λ(i:Nat) (s:List Int)=>((i:Int),s)) S (λi s=>s.length<=22+i*74) (λ(r:gX)=>r.out.length<=20000000000) (by omega) ?_ ?_ _ (by simpa using p);intro t i s y e hi c;have u:=o y (qS e);have v:i*74<=200000000*74:=Nat.mul_le_mul_right _ (by omega);have c:s.length<=22+i*74:=c;obtain⟨h,a1,a2⟩:=aVk (gX.mk s) y.Track (b:=22+i*74) c (by omega);obtain⟨j,w,z⟩:=aJq h y.Number (Nat.le_trans a2 (by omega:_<=22+i*74+52)) (by omega);refine⟨j.out,?_,?_⟩;rw [Nat.succ_mul];exact Nat.le_trans z (by omega);simp only [zH];rw [yP hi,zS,yQ e,zC,a1,zC,zC];have d:Fa2 (gX.mk h.out) y.Number=some j:=w;rw [d,zC,fO hi (by omega)];intro t s c;have c:s.length<=22+S.length*74:=c;have v:S.length*74<=200000000*74:=Nat.mul_le_mul_right _ k;simp only [zH];rw [yR,zK];exact⟨_,rfl,Nat.le_trans c (by omega)⟩
theorem aXg (r:Rules)(l:List Track)(s:Str)(a b:Int)(d:bDb r)(h:okL (λx=>uK x) l)(_hs:okS s)(j:i64 a)(k:i64 b):Fgp r l s a b=some true:=by
 have c:okR r:=d;obtain⟨_,_,_,o,p,v,w⟩:=aSt c h s j k;obtain⟨L,g,y,z,_,A⟩:=aTy c s;obtain⟨q,B,i2⟩:=ink_Spots v w;obtain⟨_,C,_⟩:=ink_Texts (gX.mk q.out) L (b:=20000000000) A i2 (by omega);unfold Fgp;rw [o,p];simp only [zC,zH];rw [B];simp only [zC];rw [y,z];simp only [zC];rw [C];simp only [zC,decide_true,zS,Fd4,zH,aXj]
end Go.Lf
