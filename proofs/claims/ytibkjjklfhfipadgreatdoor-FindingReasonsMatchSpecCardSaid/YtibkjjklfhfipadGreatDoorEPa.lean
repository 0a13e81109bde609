/- Laws that the claim stands on; no condition beyond those stated. -/
import Derived.Test.YtibkjjklfhfipadGreatDoorKPa
import Derived.Test.YtibkjjklfhfipadGreatDoorNTa
import Derived.Test.YtibkjjklfhfipadGreatDoorVPa
namespace Go.Lf
open Go.OB
structure Mk where
 tr:Str->Int
 dn:Int->Int
 ph:Str->Int
 rl:Str->Int
def mkK (M:Mk)(k:Int)(nm b:Str)(op n fr:Int)(a:List Nd):Nd:=
 if k=1 then .constant 2 else if k=2 then .constant 1 else if k=3 then .number (M.tr nm) op n
 else if k=4 then .pair (M.tr nm) (M.tr b) (M.dn (M.tr nm)) (M.dn (M.tr b)) op
 else if k=5 then .steady (M.tr nm) n fr []else if k=6 then .phase (M.ph nm)else if k=7 then .rule (M.rl nm)
 else if k=8 then .not (a.getD 0 (.constant 0))else if k=9\/k=10 then .group a (decide (k=10))
 else if k=11 then .count (a.getD 0 (.constant 0)) fr fr [] (wV [])else if k=12 then .count (a.getD 0 (.constant 0)) 1 fr [] (wV [])
 else if k=13 then .count (a.getD 0 (.constant 0)) n fr [] (wV [])else if k=14 then .since (a.getD 0 (.constant 0)) (a.getD 1 (.constant 0)) 0 false
 else .rises (a.getD 0 (.constant 0)) 0 false
mutual
def mkN (M:Mk):Cond->Nd
 |⟨k,nm,a,op,n,fr,b⟩=>mkK M k nm a op n fr (aRj M b)
def aRj (M:Mk):List Cond->List Nd
 | []=>[]
 |c::l=>mkN M c::aRj M l
end
theorem aWd (M:Mk): ∀l,aRj M l=l.map (mkN M)
 | []=>by rw [aRj];rfl
 |c::l=>by rw [aRj,aWd M l];rfl
theorem jP (M:Mk)(c:Cond):mkN M c=mkK M c.Kind c.Name c.Other c.Op c.N c.Frames (c.Kids.map (mkN M)):=by
 obtain⟨_,_,_,_,_,_,_⟩:=c;rw [mkN,aWd]
theorem kinds {k:Int}(h:1<=k/\k<=15):k=1\/k=2\/k=3\/k=4\/k=5\/k=6\/k=7\/k=8\/k=9\/k=10\/k=11\/k=12\/k=13\/k=14\/k=15:=by omega
theorem bAu (a:List Nd)(i:Nat):dpN (a.getD i (.constant 0))<=dpL a:=by
 rw [List.getD_eq_getElem?_getD]
 cases h:a[i]? with
 |none=>exact Nat.zero_le _
 |some _=>exact aQo (qS h)
theorem mkK_dp (M:Mk)(k:Int)(nm s:Str)(op n fr:Int)(d:List Nd):dpN (mkK M k nm s op n fr d)<=dpL d+1:=by
 have t:=bAu d 0;have u:=bAu d 1;unfold mkK;by_cases e:k=1;rw [if_pos e];exact Nat.zero_le _;rw [if_neg e];by_cases f:k=2;rw [if_pos f];exact Nat.zero_le _;rw [if_neg f];by_cases h:k=3;rw [if_pos h];exact Nat.zero_le _;rw [if_neg h];by_cases i:k=4;rw [if_pos i];exact Nat.zero_le _;rw [if_neg i];by_cases j:k=5;rw [if_pos j];exact Nat.zero_le _;rw [if_neg j];by_cases l:k=6;rw [if_pos l];exact Nat.zero_le _;rw [if_neg l];by_cases o:k=7;rw [if_pos o];exact Nat.zero_le _;rw [if_neg o];by_cases p:k=8;rw [if_pos p];rw [dpN];omega;rw [if_neg p];by_cases q:k=9\/k=10;rw [if_pos q];rw [dpN];exact Nat.le_refl _;rw [if_neg q];by_cases r:k=11;rw [if_pos r];rw [dpN];omega;rw [if_neg r];by_cases a:k=12;rw [if_pos a];rw [dpN];omega;rw [if_neg a];by_cases b:k=13;rw [if_pos b];rw [dpN];omega;rw [if_neg b];by_cases c:k=14;rw [if_pos c];rw [dpN];omega;rw [if_neg c];rw [dpN];omega
mutual
theorem aZf (M:Mk): ∀c,dpN (mkN M c)<=dN c
 |⟨k,nm,b,op,n,fr,a⟩=>by
  have h:=bAt M a;have d:=mkK_dp M k nm b op n fr (aRj M a);rw [mkN,dN];omega
theorem bAt (M:Mk): ∀l,dpL (aRj M l)<=dNs l
 | []=>by rw [aRj,dpL];exact Nat.zero_le _
 |c::l=>by
  have h:=aZf M c;have a:=bAt M l;rw [aRj,dpL,dNs];omega
end
theorem aJw {c x:Cond}(d:x∈c.Kids){s:Str}(e:s∈bG x):s∈bG c:=by
 rw [wB,mA]
 right
 have b: ∀l:List Cond,x∈l->s∈rC l:=by
  intro l
  induction l with
  |nil=>intro h;cases h
  |cons _ l f=>
   intro h;rw [rC,mA];rcases List.mem_cons.1 h with rfl|h
   ·left;exact e
   ·right;exact f h
 exact b _ d
theorem aJy {p:Cond->Bool}{c x:Cond}(d:x∈c.Kids)(h:aT p c=false):aT p x=false:=by
 rw [aCu,Bool.or_eq_false_iff]at h;have b: ∀l:List Cond,x∈l->kC p l=false->aT p x=false:=by
  intro l
  induction l with
  |nil=>intro h;cases h
  |cons _ l e=>
   intro h q;rw [kC,Bool.or_eq_false_iff]at q;rcases List.mem_cons.1 h with rfl|h
   ·exact q.1
   ·exact e h q.2
 exact b _ d h.2
theorem aBo {p:Cond->Bool}{c:Cond}(h:aT p c=false):p c=false:=by
 rw [aCu,Bool.or_eq_false_iff]at h;exact h.1
theorem aG {c:Cond}(h:c.Kids.length=1): ∃x,c.Kids=[x]:=by
 match e:c.Kids,h with
 | [x],_=>exact⟨x,rfl⟩
theorem aCl {c:Cond}(h:c.Kids.length=2): ∃x y,c.Kids=[x,y]:=by
 match e:c.Kids,h with
 | [x,y],_=>exact⟨x,y,rfl⟩
theorem aKx (M:Mk) {T P R:Nat} (q:Cond->Bool) (k: ∀c,q c=false->(c.Kind=6->0<=M.ph c.Name/\M.ph c.Name<P)/\(c.Kind=7->0<=M.rl c.Name/\M.rl c.Name<R)):
  ∀(m:Nat) (c:Cond),dN c<=m->Gt c->(∀s∈bG c,0<=M.tr s/\M.tr s<T)->aT q c=false->wfN T P R (mkN M c)
 |0,c,h,_,_,_=>by have:=pI c;omega
 |m+1,c,h,g,l,p=>by
  have b: ∀x∈c.Kids,wfN T P R (mkN M x):=λx a=>by
   obtain⟨_,u⟩:=List.getElem?_of_mem a;exact aKx M q k m x (by have:=(pK g.ok u).2.1;omega) (g.kid a) (λs d=>l s (aJw a d)) (aJy a p)
  have gk:=g.gk;have f:=g.self;have v:=g.kids;have r:=k c (aBo p);have nm: ∀s∈nm1 c,0<=M.tr s/\M.tr s<T:=λs d=>l s (by rw [wB,mA];exact Or.inl d)
  have g1:=f.fr;have g2:=f.n;rw [jP];rcases kinds f.k1 with e|e|e|e|e|e|e|e|e|e|e|e|e|e|e<;>rw [e]<;>simp only [mkK,Int.reduceEq,if_true,if_false,or_true,true_or,or_self]
  ·exact⟨by omega,by omega⟩
  ·exact⟨by omega,by omega⟩
  ·exact nm c.Name (by unfold nm1;simp [e])
  ·exact⟨nm c.Name (by unfold nm1;simp [e]),nm c.Other (by unfold nm1;simp [e])⟩
  ·have:=gk.fr (by omega);exact⟨nm c.Name (by unfold nm1;simp [e]),⟨by omega,by omega⟩,by simp;omega⟩
  ·exact r.1 e
  ·exact r.2 e
  ·obtain⟨x,a⟩:=aG (gk.o (by omega));rw [a];exact b x (by rw [a];exact List.mem_cons_self)
  ·exact⟨aFk.2 λx a=>by obtain⟨y,i,rfl⟩:=List.mem_map.1 a;exact b y i,by rw [List.length_map];omega⟩
  ·exact⟨aFk.2 λx a=>by obtain⟨y,i,rfl⟩:=List.mem_map.1 a;exact b y i,by rw [List.length_map];omega⟩
  ·obtain⟨x,a⟩:=aG (gk.o (by omega));have:=gk.fr (by omega);rw [a];exact⟨b x (by rw [a];exact List.mem_cons_self),⟨by omega,by omega⟩,⟨by omega,by omega⟩,by simp;omega,by simp,rfl⟩
  ·obtain⟨x,a⟩:=aG (gk.o (by omega));have:=gk.fr (by omega);rw [a];exact⟨b x (by rw [a];exact List.mem_cons_self),⟨by omega,by omega⟩,⟨by omega,by omega⟩,by simp;omega,by simp,rfl⟩
  ·obtain⟨x,a⟩:=aG (gk.o (by omega));have:=gk.fr (by omega);have:=gk.cn e;rw [a];exact⟨b x (by rw [a];exact List.mem_cons_self),⟨by omega,by omega⟩,⟨by omega,by omega⟩,by simp;omega,by simp,rfl⟩
  ·obtain⟨x,y,a⟩:=aCl (gk.t e);rw [a];exact⟨b x (by rw [a];simp),b y (by rw [a];simp),by omega,by omega⟩
  ·obtain⟨x,a⟩:=aG (gk.o (by omega));rw [a];exact⟨b x (by rw [a];exact List.mem_cons_self),by omega,by omega⟩
theorem aVe {a:Type}(p:a->Bool): ∀(l:List a) (i:Nat),∃n,dU (λi x=>if p x=true then some (some (i:Int))else none) (some (-1)) l i=some n/\(l.any p=true->(i:Int)<=n/\n<i+l.length)
 | [],i=>⟨-1,rfl,λh=>by simp at h⟩
 |x::l,i=>by
  rw [dU]
  cases h:p x with
  |true=>exact⟨i,rfl,λ_=>by rw [List.length_cons];omega⟩
  |false=>
   obtain⟨n,b,c⟩:=aVe p l (i+1);refine⟨n,by simpa using b,λq=>?_⟩;rw [List.any_cons,h,Bool.false_or]at q;have:=c q;rw [List.length_cons];omega
def aAm (l:List Str)(s:Str):Int:=(Faj l s).getD (-1)
theorem aFc (l:List Str) (s:Str) (a:l.length<=9223372036854775807):Faj l s=some (aAm l s)/\(s∈l->0<=aAm l s/\aAm l s<l.length):=by
 obtain⟨n,c,d⟩:=aVe (λy=>decide (s=y)) l 0;have e:Faj l s=some n:=by
  unfold Faj;simp only [zH,xE];unfold Fe8;rw [<-c];refine yZ l _ _ a ?_ ?_
  ·intro f _ x j hi;simp only [zH];rw [yP hi,zS,yQ j,zC,fO hi a]
   cases decide (s=x)<;>rfl
  ·intro f;simp only [zH];rw [yR];rfl
 have b:aAm l s=n:=by unfold aAm;rw [e];rfl
 refine⟨by rw [b];exact e,λh=>?_⟩;have:=d (by rw [List.any_eq_true];exact⟨s,h,by simp⟩);rw [b];omega
def mkrM (k:eH):Mk:=⟨λs=>aV k.tracks s 0,λi=>(at' k.dens i).getD 0,λs=>aAm k.phases s,λs=>aV k.rules s 0⟩
theorem aMa:(Arr.rep 3 0:Arr 3 Int)=wV []:=aSr rfl
theorem at_D {l:List Int}{i:Int}(h:0<=i/\i<l.length):at' l i=some ((at' l i).getD 0):=by
 obtain⟨_,a⟩:=wL h;rw [a];rfl
theorem bDe (k:eH) (j:k.phases.length<=9223372036854775807): ∀(n:Nat) (c:Cond),dN c<=n->Gt c->(∀s∈bG c,0<=aV k.tracks s 0/\aV k.tracks s 0<k.dens.length)->Fa3 n k c=some (mkN (mkrM k) c)
 |0,c,h,_,_=>by have:=pI c;omega
 |n+1,c,h,g,p=>by
  have w:=g.kids;have gk:=g.gk;have q:=g.self;have nm: ∀s∈nm1 c,0<=aV k.tracks s 0/\aV k.tracks s 0<k.dens.length:=λs f=>p s (by rw [wB,mA];exact Or.inl f)
  have r:Fb9 (Fa3 n) k c.Kids=some (c.Kids.map (mkN (mkrM k))):=by
   unfold Fb9 Fir;rw [zH];refine(congrArg (λo=>gB o λg=>some g) (xO (λ(i:Nat)=>((c.Kids.take i).map (mkN (mkrM k)),(i:Int))) c.Kids (some (c.Kids.map (mkN (mkrM k)))) (by omega) ?_ ?_)).trans (zC _ _)
   ·intro u i x d hi;obtain⟨k1,_,_⟩:=pK g.ok d;have hm:=qS d;simp only [zH];rw [yP hi,zS,yQ d,zC,bDe k j n x (by omega) (g.kid hm) (λs f=>p s (aJw hm f)),zC,ap16 (by simp;omega),zC,fO hi (by omega),mO d,List.map_append];rfl
   ·intro u;simp only [zH];rw [yR,zK,List.take_length]
  show Fcz (Fa3 n) k c=_;unfold Fcz;show gB (Fb9 (Fa3 n) k c.Kids) _=_;rw [r,zC,jP];have v: ∀(l:List Nd) (x:Nd),l=[x]->at' l 0=some x:=λl x h=>by rw [h];rfl
  rcases kinds q.k1 with e|e|e|e|e|e|e|e|e|e|e|e|e|e|e<;>rw [e]<;>simp only [zH,zC,Int.reduceEq,decide_true,decide_false,zS,zK,mkK,if_true,if_false,or_true,true_or,or_self]
  ·rfl
  ·have a:=nm c.Name (by unfold nm1;simp [e]);have b:=nm c.Other (by unfold nm1;simp [e]);rw [at_D a,at_D b];rfl
  ·rfl
  ·rw [(aFc k.phases c.Name j).1];rfl
  ·rfl
  ·obtain⟨x,d⟩:=aG (gk.o (by omega));rw [d];rfl
  ·obtain⟨x,d⟩:=aG (gk.o (by omega));rw [d,aMa];rfl
  ·obtain⟨x,d⟩:=aG (gk.o (by omega));rw [d,aMa];rfl
  ·obtain⟨x,d⟩:=aG (gk.o (by omega));rw [d,aMa];rfl
  ·obtain⟨x,_,d⟩:=aCl (gk.t e);rw [d];rfl
  ·obtain⟨x,d⟩:=aG (gk.o (by omega));rw [d];rfl
theorem maker_ok (k:eH)(a:k.phases.length<=9223372036854775807){c:Cond}(g:Gt c)(b: ∀s∈bG c,0<=aV k.tracks s 0/\aV k.tracks s 0<k.dens.length):Fb0 k c=some (mkN (mkrM k) c):=
 bDe k a FU c (Nat.le_of_lt (wM (by have:=g.d;omega))) g b
def nO:List Str->Nat->List (Str×Int)
 | [],_=>[]
 |s::l,i=>(s,(i:Int))::nO l (i+1)
theorem aHu (s:Str): ∀(l:List Str) (i:Nat),nO (l++[s]) i=nO l i++[(s,((i+l.length:Nat):Int))]
 | [],i=>rfl
 |x::l,i=>by
  rw [List.cons_append,nO,nO,aHu s l (i+1),List.cons_append,List.length_cons,show i+1+l.length=i+(l.length+1)by omega]
theorem aMl (s:Str): ∀(l:List Str) (i:Nat),(nO l i).any (λp=>decide (p.1=s))=l.any (λx=>decide (x=s))
 | [],_=>rfl
 |x::l,i=>by rw [nO,List.any_cons,List.any_cons,aMl s l (i+1)]
theorem aDd (k:Str)(v:Int)(l:List (Str×Int))(s:Str):aV ((k,v)::l) s 0=if k=s then v else aV l s 0:=by
 unfold aV;rw [List.find?_cons];by_cases h:k=s;simp [h];simp [h]
theorem aBx (s:Str): ∀(l:List Str) (i:Nat),s∈l-> ∃j:Nat,aV (nO l i) s 0=((i+j:Nat):Int)/\l[j]? =some s
 | [],_,h=>by simp at h
 |x::l,i,h=>by
  rw [nO,aDd]
  by_cases c:x=s
  ·subst c;exact⟨0,by rw [if_pos rfl];rfl,rfl⟩
  ·obtain⟨j,a,b⟩:=aBx s l (i+1) ((List.mem_cons.1 h).resolve_left (Ne.symm c));exact⟨j+1,by rw [if_neg c,a];congr 1;omega,by simpa using b⟩
def trI (l:List Track)(s:Str):Int:=aV (nO (l.map Track.Name) 0) s 0
def rG (l:List Track):List Int:=l.map λt=>t.Series.Den
theorem aLn {l:List Track}{s:Str}(h:s∈l.map Track.Name):0<=trI l s/\trI l s<l.length:=by
 obtain⟨_,a,b⟩:=aBx s (l.map Track.Name) 0 h;have:=(gS.1 b).1;rw [List.length_map]at this;unfold trI;rw [a];omega
theorem newL1_ok (l:List Track) (h:TK l):Fhr l (l.length:Int) (0,([]:List (Str×Int)),[])=some (nO (l.map Track.Name) 0,rG l):=by
 have o:=(aKe h).1;unfold Fhr;refine xO (λ(i:Nat)=>((i:Int),nO ((l.take i).map Track.Name) 0,rG (l.take i))) l (some (nO (l.map Track.Name) 0,rG l)) (by omega) ?_ ?_
 ·intro k i x b hi;have e:(nO ((l.take i).map Track.Name) 0).any (λp=>decide (p.1=x.Name))=false:=by
   rw [aMl,List.any_eq_false];intro _ f;obtain⟨_,n,rfl⟩:=List.mem_map.1 f;obtain⟨_,a⟩:=List.getElem?_of_mem n;rw [List.getElem?_take]at a;split at a
   ·rename_i c;simpa using h.d _ _ _ _ a b c
   ·cases a
  simp only [zH];rw [yP hi,zS,yQ b,zC,aFs _ _ e,ap8 (by unfold rG;simp;omega),zC,fO hi (by omega),mO b,List.map_append,List.map_singleton,aHu];unfold rG;rw [List.map_append,List.length_map,List.length_take,Nat.zero_add,Nat.min_eq_left (by omega)];rfl
 ·intro k;simp only [zH];rw [yR,zK,List.take_length]
def MkR (r:Rules)(l:List Track)(i:Nat):Mk:=⟨trI l,λi=>(at' (rG l) i).getD 0,λs=>aAm r.Phases s,λs=>aV (nO ((r.Rules.take i).map fU.Name) 0) s 0⟩
def rlN (r:Rules)(l:List Track)(i:Nat)(x:fU):Nd:=mkN (MkR r l i) x.When
def mvN (r:Rules)(l:List Track)(m:dH):fG:=fG.mk (aAm r.Phases m.From) (aAm r.Phases m.To) (mkN (MkR r l 0) m.When)
def fZ (r:Rules)(l:List Track):fA:=
 fA.mk r.Phases (l.length:Int) (r.Moves.map (mvN r l)) (r.Rules.mapIdx (rlN r l)) ((List.replicate r.Phases.length false).set 0 true)
structure GB (r:Rules)(l:List Track):Prop where
 ok:okR r
 c:chk r=some 0
 t:TK l
 n: ∀s∈jF r,s∈l.map Track.Name
theorem GB.g {r:Rules}{l:List Track}(h:GB r l):Gr' r:=vT h.ok h.c
theorem nm_mv {r:Rules}{m:dH}(hm:m∈r.Moves){s:Str}(a:s∈bG m.When):s∈jF r:=by
 unfold jF;rw [mA,List.mem_flatMap,List.mem_flatMap];exact Or.inl ⟨m,hm,a⟩
theorem nm_rl {r:Rules}{x:fU}(hm:x∈r.Rules){s:Str}(a:s∈bG x.When):s∈jF r:=by
 unfold jF;rw [mA,List.mem_flatMap,List.mem_flatMap];exact Or.inr ⟨x,hm,a⟩
theorem aUc {r:Rules}{l:List Track}(h:GB r l)(i:Nat){c:Cond}(g:Gt c)(a: ∀s∈bG c,s∈jF r):Fb0 (eH.mk (nO (l.map Track.Name) 0) (rG l) r.Phases (nO ((r.Rules.take i).map fU.Name) 0)) c=some (mkN (MkR r l i) c):=by
 have d:=h.g.p;refine maker_ok _ (by show r.Phases.length<=_;omega) g λs b=>?_;have:=aLn (h.n s (a s b));show 0<=trI l s/\trI l s<(rG l).length;unfold rG;rw [List.length_map];exact this
theorem newL2_ok {r:Rules}{l:List Track} (h:GB r l):Fg7 r (nO (l.map Track.Name) 0) (rG l) (r.Moves.length:Int) (0,[])=some (r.Moves.map (mvN r l)):=by
 have g:=h.g;have hm:=g.m;have f:=g.p;unfold Fg7;refine xO (λ(i:Nat)=>((i:Int),(r.Moves.take i).map (mvN r l))) r.Moves (some (r.Moves.map (mvN r l))) (by omega) ?_ ?_
 ·intro k i x a hi;have c:=qS a;have e:=aUc h 0 (g.mg x c).1 λ_ d=>nm_mv c d
  rw [List.take_zero]at e;change Fb0 (eH.mk (nO (l.map Track.Name) 0) (rG l) r.Phases []) x.When=_ at e;have b:app' 32 ((r.Moves.take i).map (mvN r l)) [mvN r l x]=some ((r.Moves.take i).map (mvN r l)++[mvN r l x]):=by
   unfold app';rw [if_pos ⟨by rw [maxLen_eq];simp;omega,by simp;omega⟩]
  simp only [zH];rw [yP hi,zS,yQ a,zC,(aFc r.Phases x.From (by omega)).1,(aFc r.Phases x.To (by omega)).1,zC,zC,e,zC];show gB (app' 32 ((r.Moves.take i).map (mvN r l)) [mvN r l x]) _=_;rw [b,zC,fO hi (by omega),mO a,List.map_append];rfl
 ·intro k;simp only [zH];rw [yR,zK,List.take_length]
theorem aVp {a β:Type}(f:Nat->a->β)(l:List a)(x:a):(l++[x]).mapIdx f=l.mapIdx f++[f l.length x]:=by
 rw [List.mapIdx_append];simp
theorem newL3_ok {r:Rules}{l:List Track} (h:GB r l):Fhv r (nO (l.map Track.Name) 0) (rG l) (r.Rules.length:Int) (0,([]:List (Str×Int)),[])=some (r.Rules.mapIdx (rlN r l)):=by
 have g:=h.g;have o:=g.l;have f:=aEh h.c;unfold Fhv;refine xO (λ(i:Nat)=>((i:Int),nO ((r.Rules.take i).map fU.Name) 0,(r.Rules.take i).mapIdx (rlN r l))) r.Rules (some (r.Rules.mapIdx (rlN r l))) (by omega) ?_ ?_
 ·intro k i x b hi;have d:=qS b;have e:=aUc h i (g.lg x d).1 λ_ j=>nm_rl d j
  have n:(nO ((r.Rules.take i).map fU.Name) 0).any (λp=>decide (p.1=x.Name))=false:=by
   rw [aMl,List.any_map];exact(f i x b).1
  have a:(r.Rules.take i).length=i:=by rw [List.length_take];omega
  simp only [zH];rw [yP hi,zS,yQ b,zC,e,zC,ap16 (by simp;omega),zC,aFs _ _ n,fO hi (by omega),mO b,aVp,List.map_append,List.map_singleton,aHu,a,List.length_map,a,Nat.zero_add];rfl
 ·intro k;simp only [zH];rw [yR,zK,List.take_length]
theorem cloneS_eq (l:List Str)(h:l.length<=1000000):Fdf l=some l:=by
 unfold Fdf;have e:app' 16 ([]:List Str) l=some l:=by
  unfold app';rw [if_pos ⟨by rw [maxLen_eq];simp;omega,by simp;omega⟩,List.nil_append]
 rw [e]
 cases l with
 |nil=>rfl
 |cons _ l=>rfl
theorem aUu {r:Rules}{l:List Track}(h:GB r l):Fdn r l=some (fZ r l):=by
 have d:=h.g.p;unfold Fdn;simp only [zH];rw [newL1_ok l h.t,zC];dsimp only;rw [cloneS_eq _ (by omega),zC];have mk:make' 1 (r.Phases.length:Int) false=some (List.replicate r.Phases.length false):=by
  unfold make';rw [if_pos ⟨by omega,by omega,by omega⟩,Int.toNat_natCast]
 rw [mk,zC,newL2_ok h,newL3_ok h];simp only [zC];have e:(gK (decide (0<(r.Phases.length:Int))) (gB (at' (List.replicate r.Phases.length false) 0) λ_=>gB (set' (List.replicate r.Phases.length false) 0 true) λa=>some a) (some (List.replicate r.Phases.length false)))=some ((List.replicate r.Phases.length false).set 0 true):=by
  cases hP:r.Phases.length with
  |zero=>rfl
  |succ n=>
   rw [dT (by omega),zS];obtain⟨_,c⟩:=wL (l:=List.replicate (n+1) false) (i:=0) ⟨by omega,by simp⟩;rw [c,zC,aYc ⟨by omega,by simp⟩];rfl
 rw [e,zC];rfl
theorem mv_ok {r:Rules} (h:chk r=some 0) {m:dH} (hm:m∈r.Moves):m.From∈r.Phases/\m.To∈r.Phases/\aT pMv m.When=false:=by
 unfold chk at h;split at h
 ·exact absurd (oI h) (by decide)
 ·obtain⟨b,e⟩:=aX (phE r.Phases) _ _ _ h;obtain⟨_,j⟩:=aX (λ_=>mvE r) _ _ _ b;obtain⟨i,hi⟩:=List.getElem?_of_mem hm;have:=j i m hi;unfold mvE at this;split at this
  ·rename_i c;split at this
   ·split at this
    ·exact absurd this (by decide)
    ·rename_i d;have a: ∀{s:Str},(r.Phases.any λy=>decide (s=y))=true->s∈r.Phases:=by
      intro s f;rw [List.any_eq_true]at f;obtain⟨y,b,e⟩:=f;rw [of_decide_eq_true e];exact b
     exact⟨a c.1,a c.2,by simpa using d⟩
   ·rename_i d;exact absurd this d
  ·exact absurd this (by decide)
theorem aYn {r:Rules}{l:List Track}(h:GB r l){s:Str}(a:s∈r.Phases):0<=aAm r.Phases s/\aAm r.Phases s<r.Phases.length:=(aFc r.Phases s (by have:=h.g.p;omega)).2 a
theorem nmd_mem {l:List fU}{s:Str}(h:nmd l s=true):s∈l.map fU.Name:=by
 unfold nmd at h;rw [List.any_eq_true]at h;obtain⟨_,a,b⟩:=h;rw [<-of_decide_eq_true b];exact List.mem_map_of_mem a
theorem aFj {r:Rules} (i:Nat) {c:Cond} (h:pRl r i c=false):(c.Kind=6->c.Name∈r.Phases)/\(c.Kind=7->c.Name∈(r.Rules.take i).map fU.Name):=by
 unfold pRl at h;rw [Bool.or_eq_false_iff]at h;refine⟨λe=>?_,λe=>?_⟩;have a:=h.1;rw [e,dT rfl,Bool.true_and,Bool.not_eq_false']at a;rw [List.any_eq_true]at a;obtain⟨_,b,d⟩:=a;rw [of_decide_eq_true d];exact b;have a:=h.2;rw [e,dT rfl,Bool.true_and,Bool.not_eq_false']at a;exact nmd_mem a
theorem aCz {r:Rules}{l:List Track} (h:GB r l):WfW (fZ r l) l.length r.Phases.length:=by
 have g:=h.g;have C:=g.p;have v:=aEh h.c;have tr: ∀s∈jF r,0<=trI l s/\trI l s<l.length:=λs b=>aLn (h.n s b)
 refine⟨rfl,by show((List.replicate _ _).set _ _).length=_;simp,by omega,rfl,by show(r.Moves.map _).length<=_;have:=g.m;simp;omega,by show(r.Rules.mapIdx _).length<=_;have:=g.l;simp;omega,λx f=>?_,λi k o=>?_⟩
 ·obtain⟨m,hm,rfl⟩:=List.mem_map.1 f;obtain⟨m1,m2,m3⟩:=mv_ok h.c hm;have q:=(g.mg m hm).1;have d:=aZf (MkR r l 0) m.When;have w:=q.d;refine⟨aYn h m2,?_,by show dpN (mkN (MkR r l 0) m.When)<=_;omega⟩;refine aKx (MkR r l 0) pMv (λc a=>?_) (dN m.When) m.When (Nat.le_refl _) q (λs b=>tr s (nm_mv hm b)) m3;unfold pMv at a;constructor
  ·intro e;rw [e]at a;simp at a
  ·intro e;rw [e]at a;simp at a
 ·change (r.Rules.mapIdx (rlN r l))[i]? =some k at o;rw [List.getElem?_mapIdx,Option.map_eq_some_iff]at o;obtain⟨x,f,rfl⟩:=o;have t:=qS f;have u:=(g.lg x t).1;have d:=aZf (MkR r l i) x.When;have w:=u.d;refine⟨?_,by show dpN (mkN (MkR r l i) x.When)<=_;omega⟩;refine aKx (MkR r l i) (pRl r i) (λc a=>?_) (dN x.When) x.When (Nat.le_refl _) u (λs b=>tr s (nm_rl t b)) (v i x f).2;obtain⟨y,z⟩:=aFj i a;refine⟨λe=>aYn h (y e),λe=>?_⟩;obtain⟨_,A,B⟩:=aBx c.Name ((r.Rules.take i).map fU.Name) 0 (z e);have:=(gS.1 B).1;rw [List.length_map,List.length_take]at this;show 0<=aV (nO ((r.Rules.take i).map fU.Name) 0) c.Name 0/\aV (nO ((r.Rules.take i).map fU.Name) 0) c.Name 0<(i:Int);rw [A];omega
def bothE (r:Rules)(l:List Track):Int:=
 if (chk r).getD 0≠0 then(chk r).getD 0 else if aMk l≠0 then aMk l else if (aEr r).all (λs=>l.any λt=>decide (t.Name=s))=true then 0 else 4
theorem both_gb {r:Rules}{l:List Track} (c:okR r) (h:bothE r l=0):GB r l:=by
 obtain⟨e,b⟩:=aLv r;unfold bothE at h;rw [b]at h;simp only [Option.getD_some]at h;by_cases z:e=0;subst z;rw [if_neg (by simp)]at h;by_cases y:aMk l=0;rw [if_neg (by simpa using y)]at h;split at h;rename_i a;refine⟨c,b,tk_of y,λs d=>?_⟩;rw [List.all_eq_true]at a;have m:s∈aEr r:=by unfold aEr;rw [uZ];exact Or.inr d
 have:=a s m;rw [List.any_eq_true]at this;obtain⟨_,f,i⟩:=this;rw [<-of_decide_eq_true i];exact List.mem_map_of_mem f;exact absurd h (by decide);rw [if_pos y]at h;exact absurd h y;rw [if_pos z]at h;exact absurd h z
end Go.Lf
