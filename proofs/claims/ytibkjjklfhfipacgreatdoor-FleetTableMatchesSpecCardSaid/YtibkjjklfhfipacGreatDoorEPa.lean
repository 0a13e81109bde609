/- Laws that the claim stands on; no condition beyond those stated. -/
import Derived.Test.YtibkjjklfhfipacGreatDoorKPa
import Derived.Test.YtibkjjklfhfipacGreatDoorNTa
import Derived.Test.YtibkjjklfhfipacGreatDoorVPa
namespace Go.Lf
open Go.OB
structure Mk where
 tr:Str->Int
 dn:Int->Int
 ph:Str->Int
 rl:Str->Int
def mkK (M:Mk)(k:Int)(nm b:Str)(op n fr:Int)(a:List Nd):Nd:=
 if k=1 then .constant 2 else if k=2 then .constant 1 else if k=3 then .number (M.tr nm) op n
 else if k=4 then .pair (M.tr nm) (M.tr b) (M.dn (M.tr nm)) (M.dn (M.tr b)) op
 else if k=5 then .steady (M.tr nm) n fr []else if k=6 then .phase (M.ph nm)else if k=7 then .rule (M.rl nm)
 else if k=8 then .not (a.getD 0 (.constant 0))else if k=9\/k=10 then .group a (decide (k=10))
 else if k=11 then .count (a.getD 0 (.constant 0)) fr fr [] (aBf [])else if k=12 then .count (a.getD 0 (.constant 0)) 1 fr [] (aBf [])
 else if k=13 then .count (a.getD 0 (.constant 0)) n fr [] (aBf [])else if k=14 then .since (a.getD 0 (.constant 0)) (a.getD 1 (.constant 0)) 0 false
 else .rises (a.getD 0 (.constant 0)) 0 false
mutual
def mkN (M:Mk):Cond->Nd
 |⟨k,nm,a,op,n,fr,b⟩=>mkK M k nm a op n fr (aWe M b)
def aWe (M:Mk):List Cond->List Nd
 | []=>[]
 |c::l=>mkN M c::aWe M l
end
theorem aZz (M:Mk): ∀l,aWe M l=l.map (mkN M)
 | []=>by rw [aWe];rfl
 |c::l=>by rw [aWe,aZz M l];rfl
theorem jT (M:Mk)(c:Cond):mkN M c=mkK M c.Kind c.Name c.Other c.Op c.N c.Frames (c.Kids.map (mkN M)):=by
 obtain⟨_,_,_,_,_,_,_⟩:=c;rw [mkN,aZz]
theorem kinds {k:Int}(h:1<=k/\k<=15):k=1\/k=2\/k=3\/k=4\/k=5\/k=6\/k=7\/k=8\/k=9\/k=10\/k=11\/k=12\/k=13\/k=14\/k=15:=by omega
theorem bHj (a:List Nd)(i:Nat):dpN (a.getD i (.constant 0))<=dpL a:=by
 rw [List.getD_eq_getElem?_getD]
 cases h:a[i]? with
 |none=>exact Nat.zero_le _
 |some _=>exact aVl (qS h)
theorem mkK_dp (M:Mk)(k:Int)(nm s:Str)(op n fr:Int)(d:List Nd):dpN (mkK M k nm s op n fr d)<=dpL d+1:=by
 have t:=bHj d 0;have u:=bHj d 1;unfold mkK;by_cases e:k=1;rw [if_pos e];exact Nat.zero_le _;rw [if_neg e];by_cases f:k=2;rw [if_pos f];exact Nat.zero_le _;rw [if_neg f];by_cases h:k=3;rw [if_pos h];exact Nat.zero_le _;rw [if_neg h];by_cases i:k=4;rw [if_pos i];exact Nat.zero_le _;rw [if_neg i];by_cases j:k=5;rw [if_pos j];exact Nat.zero_le _;rw [if_neg j];by_cases l:k=6;rw [if_pos l];exact Nat.zero_le _;rw [if_neg l];by_cases o:k=7;rw [if_pos o];exact Nat.zero_le _;rw [if_neg o];by_cases p:k=8;rw [if_pos p];rw [dpN];omega;rw [if_neg p];by_cases q:k=9\/k=10;rw [if_pos q];rw [dpN];exact Nat.le_refl _;rw [if_neg q];by_cases r:k=11;rw [if_pos r];rw [dpN];omega;rw [if_neg r];by_cases a:k=12;rw [if_pos a];rw [dpN];omega;rw [if_neg a];by_cases b:k=13;rw [if_pos b];rw [dpN];omega;rw [if_neg b];by_cases c:k=14;rw [if_pos c];rw [dpN];omega;rw [if_neg c];rw [dpN];omega
mutual
theorem bDg (M:Mk): ∀c,dpN (mkN M c)<=dN c
 |⟨k,nm,b,op,n,fr,a⟩=>by
  have h:=bEu M a;have d:=mkK_dp M k nm b op n fr (aWe M a);rw [mkN,dN];omega
theorem bEu (M:Mk): ∀l,dpL (aWe M l)<=dNs l
 | []=>by rw [aWe,dpL];exact Nat.zero_le _
 |c::l=>by
  have h:=bDg M c;have a:=bEu M l;rw [aWe,dpL,dNs];omega
end
theorem aIc {c x:Cond}(d:x∈c.Kids){s:Str}(e:s∈aZ x):s∈aZ c:=by
 rw [aAt,mA]
 right
 have b: ∀l:List Cond,x∈l->s∈vG l:=by
  intro l
  induction l with
  |nil=>intro h;cases h
  |cons _ l f=>
   intro h;rw [vG,mA];rcases List.mem_cons.1 h with rfl|h
   ·left;exact e
   ·right;exact f h
 exact b _ d
theorem aMz {p:Cond->Bool}{c x:Cond}(d:x∈c.Kids)(h:qU p c=false):qU p x=false:=by
 rw [aMy,Bool.or_eq_false_iff]at h;have b: ∀l:List Cond,x∈l->aGl p l=false->qU p x=false:=by
  intro l
  induction l with
  |nil=>intro h;cases h
  |cons _ l e=>
   intro h q;rw [aGl,Bool.or_eq_false_iff]at q;rcases List.mem_cons.1 h with rfl|h
   ·exact q.1
   ·exact e h q.2
 exact b _ d h.2
theorem aEe {p:Cond->Bool}{c:Cond}(h:qU p c=false):p c=false:=by
 rw [aMy,Bool.or_eq_false_iff]at h;exact h.1
theorem aK {c:Cond}(h:c.Kids.length=1): ∃x,c.Kids=[x]:=by
 match e:c.Kids,h with
 | [x],_=>exact⟨x,rfl⟩
theorem aFa {c:Cond}(h:c.Kids.length=2): ∃x y,c.Kids=[x,y]:=by
 match e:c.Kids,h with
 | [x,y],_=>exact⟨x,y,rfl⟩
theorem aOw (M:Mk) {T P R:Nat} (q:Cond->Bool) (i: ∀c,q c=false->(c.Kind=6->0<=M.ph c.Name/\M.ph c.Name<P)/\(c.Kind=7->0<=M.rl c.Name/\M.rl c.Name<R)):
  ∀(m:Nat) (c:Cond),dN c<=m->Gt c->(∀s∈aZ c,0<=M.tr s/\M.tr s<T)->qU q c=false->wfN T P R (mkN M c)
 |0,c,h,_,_,_=>by have:=uA c;omega
 |m+1,c,h,g,k,l=>by
  have b: ∀x∈c.Kids,wfN T P R (mkN M x):=λx a=>by
   obtain⟨_,r⟩:=List.getElem?_of_mem a;exact aOw M q i m x (by have:=(uC g.ok r).2.1;omega) (g.kid a) (λs d=>k s (aIc a d)) (aMz a l)
  have gk:=g.gk;have gs:=g.self;have u:=g.kids;have p:=i c (aEe l);have nm: ∀s∈nm1 c,0<=M.tr s/\M.tr s<T:=λs d=>k s (by rw [aAt,mA];exact Or.inl d)
  have g1:=gs.fr;have g2:=gs.n;rw [jT];rcases kinds gs.k1 with e|e|e|e|e|e|e|e|e|e|e|e|e|e|e<;>rw [e]<;>simp only [mkK,Int.reduceEq,if_true,if_false,or_true,true_or,or_self]
  ·exact⟨by omega,by omega⟩
  ·exact⟨by omega,by omega⟩
  ·exact nm c.Name (by unfold nm1;simp [e])
  ·exact⟨nm c.Name (by unfold nm1;simp [e]),nm c.Other (by unfold nm1;simp [e])⟩
  ·have:=gk.fr (by omega);exact⟨nm c.Name (by unfold nm1;simp [e]),⟨by omega,by omega⟩,by simp;omega⟩
  ·exact p.1 e
  ·exact p.2 e
  ·obtain⟨x,a⟩:=aK (gk.o (by omega));rw [a];exact b x (by rw [a];exact List.mem_cons_self)
  ·exact⟨aIe.2 λx a=>by obtain⟨y,f,rfl⟩:=List.mem_map.1 a;exact b y f,by rw [List.length_map];omega⟩
  ·exact⟨aIe.2 λx a=>by obtain⟨y,f,rfl⟩:=List.mem_map.1 a;exact b y f,by rw [List.length_map];omega⟩
  ·obtain⟨x,a⟩:=aK (gk.o (by omega));have:=gk.fr (by omega);rw [a];exact⟨b x (by rw [a];exact List.mem_cons_self),⟨by omega,by omega⟩,⟨by omega,by omega⟩,by simp;omega,by simp,rfl⟩
  ·obtain⟨x,a⟩:=aK (gk.o (by omega));have:=gk.fr (by omega);rw [a];exact⟨b x (by rw [a];exact List.mem_cons_self),⟨by omega,by omega⟩,⟨by omega,by omega⟩,by simp;omega,by simp,rfl⟩
  ·obtain⟨x,a⟩:=aK (gk.o (by omega));have:=gk.fr (by omega);have:=gk.cn e;rw [a];exact⟨b x (by rw [a];exact List.mem_cons_self),⟨by omega,by omega⟩,⟨by omega,by omega⟩,by simp;omega,by simp,rfl⟩
  ·obtain⟨x,y,a⟩:=aFa (gk.t e);rw [a];exact⟨b x (by rw [a];simp),b y (by rw [a];simp),by omega,by omega⟩
  ·obtain⟨x,a⟩:=aK (gk.o (by omega));rw [a];exact⟨b x (by rw [a];exact List.mem_cons_self),by omega,by omega⟩
theorem bBv {a:Type}(p:a->Bool): ∀(l:List a) (i:Nat),∃n,eU (λi x=>if p x=true then some (some (i:Int))else none) (some (-1)) l i=some n/\(l.any p=true->(i:Int)<=n/\n<i+l.length)
 | [],i=>⟨-1,rfl,λh=>by simp at h⟩
 |x::l,i=>by
  rw [eU]
  cases h:p x with
  |true=>exact⟨i,rfl,λ_=>by rw [List.length_cons];omega⟩
  |false=>
   obtain⟨n,b,c⟩:=bBv p l (i+1);refine⟨n,by simpa using b,λq=>?_⟩;rw [List.any_cons,h,Bool.false_or]at q;have:=c q;rw [List.length_cons];omega
def aBt (l:List Str)(s:Str):Int:=(Fai l s).getD (-1)
theorem aIo (l:List Str) (s:Str) (a:l.length<=9223372036854775807):Fai l s=some (aBt l s)/\(s∈l->0<=aBt l s/\aBt l s<l.length):=by
 obtain⟨n,c,d⟩:=bBv (λy=>decide (s=y)) l 0;have e:Fai l s=some n:=by
  unfold Fai;simp only [zD,xE];unfold Fdq;rw [<-c];refine yS l _ _ a ?_ ?_
  ·intro f _ x j hi;simp only [zD];rw [yA hi,zL,yB j,zA,fC hi a]
   cases decide (s=x)<;>rfl
  ·intro f;simp only [zD];rw [yC];rfl
 have b:aBt l s=n:=by unfold aBt;rw [e];rfl
 refine⟨by rw [b];exact e,λh=>?_⟩;have:=d (by rw [List.any_eq_true];exact⟨s,h,by simp⟩);rw [b];omega
def mkrM (k:eF):Mk:=⟨λs=>mM k.tracks s 0,λi=>(at' k.dens i).getD 0,λs=>aBt k.phases s,λs=>mM k.rules s 0⟩
theorem aRo:(Arr.rep 3 0:Arr 3 Int)=aBf []:=aVe rfl
theorem at_D {l:List Int}{i:Int}(h:0<=i/\i<l.length):at' l i=some ((at' l i).getD 0):=by
 obtain⟨_,a⟩:=aAq h;rw [a];rfl
theorem bHf (k:eF) (j:k.phases.length<=9223372036854775807): ∀(n:Nat) (c:Cond),dN c<=n->Gt c->(∀s∈aZ c,0<=mM k.tracks s 0/\mM k.tracks s 0<k.dens.length)->Fa3 n k c=some (mkN (mkrM k) c)
 |0,c,h,_,_=>by have:=uA c;omega
 |n+1,c,h,g,p=>by
  have v:=g.kids;have gk:=g.gk;have gs:=g.self;have nm: ∀s∈nm1 c,0<=mM k.tracks s 0/\mM k.tracks s 0<k.dens.length:=λs f=>p s (by rw [aAt,mA];exact Or.inl f)
  have q:Fdt (Fa3 n) k c.Kids=some (c.Kids.map (mkN (mkrM k))):=by
   unfold Fdt Fiw;rw [zD];refine(congrArg (λo=>gB o λg=>some g) (xB (λ(i:Nat)=>((c.Kids.take i).map (mkN (mkrM k)),(i:Int))) c.Kids (some (c.Kids.map (mkN (mkrM k)))) (by omega) ?_ ?_)).trans (zA _ _)
   ·intro r i x d hi;obtain⟨k1,_,_⟩:=uC g.ok d;have hm:=qS d;simp only [zD];rw [yA hi,zL,yB d,zA,bHf k j n x (by omega) (g.kid hm) (λs f=>p s (aIc hm f)),zA,ap16 (by simp;omega),zA,fC hi (by omega),bY d,List.map_append];rfl
   ·intro r;simp only [zD];rw [yC,zK,List.take_length]
  show Fdi (Fa3 n) k c=_;unfold Fdi;show gB (Fdt (Fa3 n) k c.Kids) _=_;rw [q,zA,jT];have u: ∀(l:List Nd) (x:Nd),l=[x]->at' l 0=some x:=λl x h=>by rw [h];rfl
  rcases kinds gs.k1 with e|e|e|e|e|e|e|e|e|e|e|e|e|e|e<;>rw [e]<;>simp only [zD,zA,Int.reduceEq,decide_true,decide_false,zL,zK,mkK,if_true,if_false,or_true,true_or,or_self]
  ·rfl
  ·have a:=nm c.Name (by unfold nm1;simp [e]);have b:=nm c.Other (by unfold nm1;simp [e]);rw [at_D a,at_D b];rfl
  ·rfl
  ·rw [(aIo k.phases c.Name j).1];rfl
  ·rfl
  ·obtain⟨x,d⟩:=aK (gk.o (by omega));rw [d];rfl
  ·obtain⟨x,d⟩:=aK (gk.o (by omega));rw [d,aRo];rfl
  ·obtain⟨x,d⟩:=aK (gk.o (by omega));rw [d,aRo];rfl
  ·obtain⟨x,d⟩:=aK (gk.o (by omega));rw [d,aRo];rfl
  ·obtain⟨x,_,d⟩:=aFa (gk.t e);rw [d];rfl
  ·obtain⟨x,d⟩:=aK (gk.o (by omega));rw [d];rfl
theorem maker_ok (k:eF)(a:k.phases.length<=9223372036854775807){c:Cond}(g:Gt c)(b: ∀s∈aZ c,0<=mM k.tracks s 0/\mM k.tracks s 0<k.dens.length):Fb4 k c=some (mkN (mkrM k) c):=
 bHf k a FU c (Nat.le_of_lt (aDk (by have:=g.d;omega))) g b
def aY:List Str->Nat->List (Str×Int)
 | [],_=>[]
 |s::l,i=>(s,(i:Int))::aY l (i+1)
theorem aFo (s:Str): ∀(l:List Str) (i:Nat),aY (l++[s]) i=aY l i++[(s,((i+l.length:Nat):Int))]
 | [],i=>rfl
 |x::l,i=>by
  rw [List.cons_append,aY,aY,aFo s l (i+1),List.cons_append,List.length_cons,show i+1+l.length=i+(l.length+1)by omega]
theorem aHx (s:Str): ∀(l:List Str) (i:Nat),(aY l i).any (λp=>decide (p.1=s))=l.any (λx=>decide (x=s))
 | [],_=>rfl
 |x::l,i=>by rw [aY,List.any_cons,List.any_cons,aHx s l (i+1)]
theorem aFm (k:Str)(v:Int)(l:List (Str×Int))(s:Str):mM ((k,v)::l) s 0=if k=s then v else mM l s 0:=by
 unfold mM;rw [List.find?_cons];by_cases h:k=s;simp [h];simp [h]
theorem uM (s:Str): ∀(l:List Str) (i:Nat),s∈l-> ∃j:Nat,mM (aY l i) s 0=((i+j:Nat):Int)/\l[j]? =some s
 | [],_,h=>by simp at h
 |x::l,i,h=>by
  rw [aY,aFm]
  by_cases c:x=s
  ·subst c;exact⟨0,by rw [if_pos rfl];rfl,rfl⟩
  ·obtain⟨j,a,b⟩:=uM s l (i+1) ((List.mem_cons.1 h).resolve_left (Ne.symm c));exact⟨j+1,by rw [if_neg c,a];congr 1;omega,by simpa using b⟩
def trI (l:List Track)(s:Str):Int:=mM (aY (l.map Track.Name) 0) s 0
def nX (l:List Track):List Int:=l.map λt=>t.Series.Den
theorem aPz {l:List Track}{s:Str}(h:s∈l.map Track.Name):0<=trI l s/\trI l s<l.length:=by
 obtain⟨_,a,b⟩:=uM s (l.map Track.Name) 0 h;have:=(gS.1 b).1;rw [List.length_map]at this;unfold trI;rw [a];omega
theorem newL1_ok (l:List Track) (h:TK l):Fhk l (l.length:Int) (0,([]:List (Str×Int)),[])=some (aY (l.map Track.Name) 0,nX l):=by
 have o:=(aQx h).1;unfold Fhk;refine xB (λ(i:Nat)=>((i:Int),aY ((l.take i).map Track.Name) 0,nX (l.take i))) l (some (aY (l.map Track.Name) 0,nX l)) (by omega) ?_ ?_
 ·intro k i x b hi;have e:(aY ((l.take i).map Track.Name) 0).any (λp=>decide (p.1=x.Name))=false:=by
   rw [aHx,List.any_eq_false];intro _ f;obtain⟨_,n,rfl⟩:=List.mem_map.1 f;obtain⟨_,a⟩:=List.getElem?_of_mem n;rw [List.getElem?_take]at a;split at a
   ·rename_i c;simpa using h.d _ _ _ _ a b c
   ·cases a
  simp only [zD];rw [yA hi,zL,yB b,zA,aFe _ _ e,ap8 (by unfold nX;simp;omega),zA,fC hi (by omega),bY b,List.map_append,List.map_singleton,aFo];unfold nX;rw [List.map_append,List.length_map,List.length_take,Nat.zero_add,Nat.min_eq_left (by omega)];rfl
 ·intro k;simp only [zD];rw [yC,zK,List.take_length]
def MkR (r:Rules)(l:List Track)(i:Nat):Mk:=⟨trI l,λi=>(at' (nX l) i).getD 0,λs=>aBt r.Phases s,λs=>mM (aY ((r.Rules.take i).map Rule.Name) 0) s 0⟩
def rlN (r:Rules)(l:List Track)(i:Nat)(x:Rule):Nd:=mkN (MkR r l i) x.When
def mvN (r:Rules)(l:List Track)(m:dH):fG:=fG.mk (aBt r.Phases m.From) (aBt r.Phases m.To) (mkN (MkR r l 0) m.When)
def fJ (r:Rules)(l:List Track):fA:=
 fA.mk r.Phases (l.length:Int) (r.Moves.map (mvN r l)) (r.Rules.mapIdx (rlN r l)) ((List.replicate r.Phases.length false).set 0 true)
structure GB (r:Rules)(l:List Track):Prop where
 ok:okR r
 c:chk r=some 0
 t:TK l
 n: ∀s∈dB r,s∈l.map Track.Name
theorem GB.g {r:Rules}{l:List Track}(h:GB r l):Gr' r:=aA h.ok h.c
theorem nm_mv {r:Rules}{m:dH}(hm:m∈r.Moves){s:Str}(a:s∈aZ m.When):s∈dB r:=by
 unfold dB;rw [mA,List.mem_flatMap,List.mem_flatMap];exact Or.inl ⟨m,hm,a⟩
theorem nm_rl {r:Rules}{x:Rule}(hm:x∈r.Rules){s:Str}(a:s∈aZ x.When):s∈dB r:=by
 unfold dB;rw [mA,List.mem_flatMap,List.mem_flatMap];exact Or.inr ⟨x,hm,a⟩
theorem aXr {r:Rules}{l:List Track}(h:GB r l)(i:Nat){c:Cond}(g:Gt c)(a: ∀s∈aZ c,s∈dB r):Fb4 (eF.mk (aY (l.map Track.Name) 0) (nX l) r.Phases (aY ((r.Rules.take i).map Rule.Name) 0)) c=some (mkN (MkR r l i) c):=by
 have d:=h.g.p;refine maker_ok _ (by show r.Phases.length<=_;omega) g λs b=>?_;have:=aPz (h.n s (a s b));show 0<=trI l s/\trI l s<(nX l).length;unfold nX;rw [List.length_map];exact this
theorem newL2_ok {r:Rules}{l:List Track} (h:GB r l):Fie r (aY (l.map Track.Name) 0) (nX l) (r.Moves.length:Int) (0,[])=some (r.Moves.map (mvN r l)):=by
 have g:=h.g;have hm:=g.m;have f:=g.p;unfold Fie;refine xB (λ(i:Nat)=>((i:Int),(r.Moves.take i).map (mvN r l))) r.Moves (some (r.Moves.map (mvN r l))) (by omega) ?_ ?_
 ·intro k i x a hi;have c:=qS a;have e:=aXr h 0 (g.mg x c).1 λ_ d=>nm_mv c d
  rw [List.take_zero]at e;change Fb4 (eF.mk (aY (l.map Track.Name) 0) (nX l) r.Phases []) x.When=_ at e;have b:app' 32 ((r.Moves.take i).map (mvN r l)) [mvN r l x]=some ((r.Moves.take i).map (mvN r l)++[mvN r l x]):=by
   unfold app';rw [if_pos ⟨by rw [maxLen_eq];simp;omega,by simp;omega⟩]
  simp only [zD];rw [yA hi,zL,yB a,zA,(aIo r.Phases x.From (by omega)).1,(aIo r.Phases x.To (by omega)).1,zA,zA,e,zA];show gB (app' 32 ((r.Moves.take i).map (mvN r l)) [mvN r l x]) _=_;rw [b,zA,fC hi (by omega),bY a,List.map_append];rfl
 ·intro k;simp only [zD];rw [yC,zK,List.take_length]
theorem bAm {a β:Type}(f:Nat->a->β)(l:List a)(x:a):(l++[x]).mapIdx f=l.mapIdx f++[f l.length x]:=by
 rw [List.mapIdx_append];simp
theorem newL3_ok {r:Rules}{l:List Track} (h:GB r l):Fhs r (aY (l.map Track.Name) 0) (nX l) (r.Rules.length:Int) (0,([]:List (Str×Int)),[])=some (r.Rules.mapIdx (rlN r l)):=by
 have g:=h.g;have o:=g.l;have f:=bBy h.c;unfold Fhs;refine xB (λ(i:Nat)=>((i:Int),aY ((r.Rules.take i).map Rule.Name) 0,(r.Rules.take i).mapIdx (rlN r l))) r.Rules (some (r.Rules.mapIdx (rlN r l))) (by omega) ?_ ?_
 ·intro k i x b hi;have d:=qS b;have e:=aXr h i (g.lg x d).1 λ_ j=>nm_rl d j
  have n:(aY ((r.Rules.take i).map Rule.Name) 0).any (λp=>decide (p.1=x.Name))=false:=by
   rw [aHx,List.any_map];exact(f i x b).1
  have a:(r.Rules.take i).length=i:=by rw [List.length_take];omega
  simp only [zD];rw [yA hi,zL,yB b,zA,e,zA,ap16 (by simp;omega),zA,aFe _ _ n,fC hi (by omega),bY b,bAm,List.map_append,List.map_singleton,aFo,a,List.length_map,a,Nat.zero_add];rfl
 ·intro k;simp only [zD];rw [yC,zK,List.take_length]
theorem cloneS_eq (l:List Str)(h:l.length<=1000000):Fcm l=some l:=by
 unfold Fcm;have e:app' 16 ([]:List Str) l=some l:=by
  unfold app';rw [if_pos ⟨by rw [maxLen_eq];simp;omega,by simp;omega⟩,List.nil_append]
 rw [e]
 cases l with
 |nil=>rfl
 |cons _ l=>rfl
theorem aMo {r:Rules}{l:List Track}(h:GB r l):Fe4 r l=some (fJ r l):=by
 have d:=h.g.p;unfold Fe4;simp only [zD];rw [newL1_ok l h.t,zA];dsimp only;rw [cloneS_eq _ (by omega),zA];have mk:make' 1 (r.Phases.length:Int) false=some (List.replicate r.Phases.length false):=by
  unfold make';rw [if_pos ⟨by omega,by omega,by omega⟩,Int.toNat_natCast]
 rw [mk,zA,newL2_ok h,newL3_ok h];simp only [zA];have e:(gQ (decide (0<(r.Phases.length:Int))) (gB (at' (List.replicate r.Phases.length false) 0) λ_=>gB (set' (List.replicate r.Phases.length false) 0 true) λa=>some a) (some (List.replicate r.Phases.length false)))=some ((List.replicate r.Phases.length false).set 0 true):=by
  cases hP:r.Phases.length with
  |zero=>rfl
  |succ n=>
   rw [dT (by omega),zL];obtain⟨_,c⟩:=aAq (l:=List.replicate (n+1) false) (i:=0) ⟨by omega,by simp⟩;rw [c,zA,bCb ⟨by omega,by simp⟩];rfl
 rw [e,zA];rfl
theorem mv_ok {r:Rules} (h:chk r=some 0) {m:dH} (hm:m∈r.Moves):m.From∈r.Phases/\m.To∈r.Phases/\qU pMv m.When=false:=by
 unfold chk at h;split at h
 ·exact absurd (oI h) (by decide)
 ·obtain⟨b,e⟩:=jX (phE r.Phases) _ _ _ h;obtain⟨_,j⟩:=jX (λ_=>mvE r) _ _ _ b;obtain⟨i,hi⟩:=List.getElem?_of_mem hm;have:=j i m hi;unfold mvE at this;split at this
  ·rename_i c;split at this
   ·split at this
    ·exact absurd this (by decide)
    ·rename_i d;have a: ∀{s:Str},(r.Phases.any λy=>decide (s=y))=true->s∈r.Phases:=by
      intro s f;rw [List.any_eq_true]at f;obtain⟨y,b,e⟩:=f;rw [of_decide_eq_true e];exact b
     exact⟨a c.1,a c.2,by simpa using d⟩
   ·rename_i d;exact absurd this d
  ·exact absurd this (by decide)
theorem bDy {r:Rules}{l:List Track}(h:GB r l){s:Str}(a:s∈r.Phases):0<=aBt r.Phases s/\aBt r.Phases s<r.Phases.length:=(aIo r.Phases s (by have:=h.g.p;omega)).2 a
theorem nmd_mem {l:List Rule}{s:Str}(h:nmd l s=true):s∈l.map Rule.Name:=by
 unfold nmd at h;rw [List.any_eq_true]at h;obtain⟨_,a,b⟩:=h;rw [<-of_decide_eq_true b];exact List.mem_map_of_mem a
theorem aEi {r:Rules} (i:Nat) {c:Cond} (h:pRl r i c=false):(c.Kind=6->c.Name∈r.Phases)/\(c.Kind=7->c.Name∈(r.Rules.take i).map Rule.Name):=by
 unfold pRl at h;rw [Bool.or_eq_false_iff]at h;refine⟨λe=>?_,λe=>?_⟩;have a:=h.1;rw [e,dT rfl,Bool.true_and,Bool.not_eq_false']at a;rw [List.any_eq_true]at a;obtain⟨_,b,d⟩:=a;rw [of_decide_eq_true d];exact b;have a:=h.2;rw [e,dT rfl,Bool.true_and,Bool.not_eq_false']at a;exact nmd_mem a
theorem uI {r:Rules}{l:List Track} (h:GB r l):WfW (fJ r l) l.length r.Phases.length:=by
 have g:=h.g;have C:=g.p;have v:=bBy h.c;have tr: ∀s∈dB r,0<=trI l s/\trI l s<l.length:=λs b=>aPz (h.n s b)
 refine⟨rfl,by show((List.replicate _ _).set _ _).length=_;simp,by omega,rfl,by show(r.Moves.map _).length<=_;have:=g.m;simp;omega,by show(r.Rules.mapIdx _).length<=_;have:=g.l;simp;omega,λx f=>?_,λi k o=>?_⟩
 ·obtain⟨m,hm,rfl⟩:=List.mem_map.1 f;obtain⟨m1,m2,m3⟩:=mv_ok h.c hm;have q:=(g.mg m hm).1;have d:=bDg (MkR r l 0) m.When;have w:=q.d;refine⟨bDy h m2,?_,by show dpN (mkN (MkR r l 0) m.When)<=_;omega⟩;refine aOw (MkR r l 0) pMv (λc a=>?_) (dN m.When) m.When (Nat.le_refl _) q (λs b=>tr s (nm_mv hm b)) m3;unfold pMv at a;constructor
  ·intro e;rw [e]at a;simp at a
  ·intro e;rw [e]at a;simp at a
 ·change (r.Rules.mapIdx (rlN r l))[i]? =some k at o;rw [List.getElem?_mapIdx,Option.map_eq_some_iff]at o;obtain⟨x,f,rfl⟩:=o;have t:=qS f;have u:=(g.lg x t).1;have d:=bDg (MkR r l i) x.When;have w:=u.d;refine⟨?_,by show dpN (mkN (MkR r l i) x.When)<=_;omega⟩;refine aOw (MkR r l i) (pRl r i) (λc a=>?_) (dN x.When) x.When (Nat.le_refl _) u (λs b=>tr s (nm_rl t b)) (v i x f).2;obtain⟨y,z⟩:=aEi i a;refine⟨λe=>bDy h (y e),λe=>?_⟩;obtain⟨_,A,B⟩:=uM c.Name ((r.Rules.take i).map Rule.Name) 0 (z e);have:=(gS.1 B).1;rw [List.length_map,List.length_take]at this;show 0<=mM (aY ((r.Rules.take i).map Rule.Name) 0) c.Name 0/\mM (aY ((r.Rules.take i).map Rule.Name) 0) c.Name 0<(i:Int);rw [A];omega
def aMh (a b:Int):Int:=if a<0\/b<a\/4194304<=b then 9 else if 20000<b-a+1 then 3 else 0
theorem span_ok {a b:Int} (h:aMh a b=0):0<=a/\a<=b/\b<=4194303/\b-a+1<=20000:=by
 unfold aMh at h;split at h;exact absurd h (by decide);split at h;exact absurd h (by decide);omega
def phL:List Bool->List Str->List Str
 |true::bs,s::a=>s::phL bs a
 |false::bs,_::a=>phL bs a
 |_,_=>[]
theorem aPw (b:Bool)(s:Str): ∀(bs:List Bool) (a:List Str),bs.length=a.length->phL (bs++[b]) (a++[s])=phL bs a++if b=true then [s]else []
 | [],[],_=>by cases b<;>rfl
 | [],_::_,h=>by simp at h
 |_::_,[],h=>by simp at h
 |true::bs,x::a,h=>by
  rw [List.cons_append,List.cons_append,phL,phL,aPw b s bs a (by simpa using h),List.cons_append]
 |false::bs,x::a,h=>by
  rw [List.cons_append,List.cons_append,phL,phL,aPw b s bs a (by simpa using h)]
theorem aVi: ∀(bs:List Bool) (a:List Str),(phL bs a).length<=a.length
 | [],a=>by simp [phL]
 |b::bs,[]=>by cases b<;>simp [phL]
 |true::bs,x::a=>by rw [phL,List.length_cons,List.length_cons];have:=aVi bs a;omega
 |false::bs,x::a=>by rw [phL,List.length_cons];have:=aVi bs a;omega
theorem Phase_eq {w:fA}{T P:Nat} (h:WfW w T P):Fbe w=some (phL w.possible w.phases):=by
 have d:=h.pb;have e:=h.po;have f:=h.ph;unfold Fbe Fio;rw [zD];refine(congrArg (λo=>gB o λg=>some g) (xB (λ(i:Nat)=>(phL (w.possible.take i) (w.phases.take i),(i:Int))) w.possible (some (phL w.possible w.phases)) (by omega) ?_ ?_)).trans (zA _ _);intro k i x b hi;have a:i<w.phases.length:=by omega
 have c:w.phases[i]? =some w.phases[i]:=gE a;have j:=aVi (w.possible.take i) (w.phases.take i);have l:(w.phases.take i).length<=w.phases.length:=by rw [List.length_take];omega
 simp only [zD];rw [yA hi,zL,yB b,yB c,fC hi (by omega),bY b,bY c,aPw _ _ _ _ (by simp;omega)];simp only [zA];cases x;simp [gQ,gB];rw [zL,ap16 (by omega),zA];rfl;intro k;simp only [zD];rw [yC,zK,List.take_length,List.take_of_length_le (by omega)]
end Go.Lf
