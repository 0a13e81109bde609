/- Laws that the claim stands on; no condition beyond those stated. -/
import Derived.Test.YtnccbhdmemheeaaGreatDoorKPa
import Derived.Test.YtnccbhdmemheeaaGreatDoorNTa
import Derived.Test.YtnccbhdmemheeaaGreatDoorVPa
namespace Go.Lf
open Go.OB
structure Mk where
 tr:Str->Int
 dn:Int->Int
 ph:Str->Int
 rl:Str->Int
def mkK (M:Mk)(k:Int)(nm a:Str)(op n fr:Int)(ks:List Nd):Nd:=
 if k=1 then .constant 2 else if k=2 then .constant 1 else if k=3 then .number (M.tr nm) op n
 else if k=4 then .pair (M.tr nm) (M.tr a) (M.dn (M.tr nm)) (M.dn (M.tr a)) op
 else if k=5 then .steady (M.tr nm) n fr []else if k=6 then .phase (M.ph nm)else if k=7 then .rule (M.rl nm)
 else if k=8 then .not (ks.getD 0 (.constant 0))else if k=9\/k=10 then .group ks (decide (k=10))
 else if k=11 then .count (ks.getD 0 (.constant 0)) fr fr [] (wU [])else if k=12 then .count (ks.getD 0 (.constant 0)) 1 fr [] (wU [])
 else if k=13 then .count (ks.getD 0 (.constant 0)) n fr [] (wU [])else if k=14 then .since (ks.getD 0 (.constant 0)) (ks.getD 1 (.constant 0)) 0 false
 else .rises (ks.getD 0 (.constant 0)) 0 false
mutual
def mkN (M:Mk):Cond->Nd
 |⟨k,nm,a,op,n,fr,ks⟩=>mkK M k nm a op n fr (aRv M ks)
def aRv (M:Mk):List Cond->List Nd
 | []=>[]
 |c::l=>mkN M c::aRv M l
end
theorem aVk (M:Mk): ∀l,aRv M l=l.map (mkN M)
 | []=>by rw [aRv];rfl
 |c::l=>by rw [aRv,aVk M l];rfl
theorem mP (M:Mk)(c:Cond):mkN M c=mkK M c.Kind c.Name c.Other c.Op c.N c.Frames (c.Kids.map (mkN M)):=by
 obtain⟨_,_,_,_,_,_,_⟩:=c;rw [mkN,aVk]
theorem kinds {k:Int}(h:1<=k/\k<=15):k=1\/k=2\/k=3\/k=4\/k=5\/k=6\/k=7\/k=8\/k=9\/k=10\/k=11\/k=12\/k=13\/k=14\/k=15:=by omega
theorem bAg (ks:List Nd)(i:Nat):dpN (ks.getD i (.constant 0))<=dpL ks:=by
 rw [List.getD_eq_getElem?_getD]
 cases h:ks[i]? with
 |none=>exact Nat.zero_le _
 |some _=>exact aGg (qS h)
theorem mkK_dp (M:Mk)(k:Int)(nm r:Str)(op n fr:Int)(ks:List Nd):dpN (mkK M k nm r op n fr ks)<=dpL ks+1:=by
 have s:=bAg ks 0;have t:=bAg ks 1;unfold mkK;by_cases d:k=1;rw [if_pos d];exact Nat.zero_le _;rw [if_neg d];by_cases e:k=2;rw [if_pos e];exact Nat.zero_le _;rw [if_neg e];by_cases f:k=3;rw [if_pos f];exact Nat.zero_le _;rw [if_neg f];by_cases h:k=4;rw [if_pos h];exact Nat.zero_le _;rw [if_neg h];by_cases i:k=5;rw [if_pos i];exact Nat.zero_le _;rw [if_neg i];by_cases j:k=6;rw [if_pos j];exact Nat.zero_le _;rw [if_neg j];by_cases l:k=7;rw [if_pos l];exact Nat.zero_le _;rw [if_neg l];by_cases o:k=8;rw [if_pos o];rw [dpN];omega;rw [if_neg o];by_cases p:k=9\/k=10;rw [if_pos p];rw [dpN];exact Nat.le_refl _;rw [if_neg p];by_cases q:k=11;rw [if_pos q];rw [dpN];omega;rw [if_neg q];by_cases a:k=12;rw [if_pos a];rw [dpN];omega;rw [if_neg a];by_cases b:k=13;rw [if_pos b];rw [dpN];omega;rw [if_neg b];by_cases c:k=14;rw [if_pos c];rw [dpN];omega;rw [if_neg c];rw [dpN];omega
mutual
theorem aZj (M:Mk): ∀c,dpN (mkN M c)<=dN c
 |⟨k,nm,a,op,n,fr,ks⟩=>by
  have h:=bCm M ks;have b:=mkK_dp M k nm a op n fr (aRv M ks);rw [mkN,dN];omega
theorem bCm (M:Mk): ∀l,dpL (aRv M l)<=dNs l
 | []=>by rw [aRv,dpL];exact Nat.zero_le _
 |c::l=>by
  have h:=aZj M c;have a:=bCm M l;rw [aRv,dpL,dNs];omega
end
theorem aJm {c x:Cond}(d:x∈c.Kids){s:Str}(e:s∈kH x):s∈kH c:=by
 rw [aAv,mA]
 right
 have b: ∀l:List Cond,x∈l->s∈uM l:=by
  intro l
  induction l with
  |nil=>intro h;cases h
  |cons _ l f=>
   intro h;rw [uM,mA];rcases List.mem_cons.1 h with rfl|h
   ·left;exact e
   ·right;exact f h
 exact b _ d
theorem aQy {p:Cond->Bool}{c x:Cond}(d:x∈c.Kids)(h:qP p c=false):qP p x=false:=by
 rw [aJp,Bool.or_eq_false_iff]at h;have b: ∀l:List Cond,x∈l->aDx p l=false->qP p x=false:=by
  intro l
  induction l with
  |nil=>intro h;cases h
  |cons _ l e=>
   intro h q;rw [aDx,Bool.or_eq_false_iff]at q;rcases List.mem_cons.1 h with rfl|h
   ·exact q.1
   ·exact e h q.2
 exact b _ d h.2
theorem aGr {p:Cond->Bool}{c:Cond}(h:qP p c=false):p c=false:=by
 rw [aJp,Bool.or_eq_false_iff]at h;exact h.1
theorem jD {c:Cond}(h:c.Kids.length=1): ∃x,c.Kids=[x]:=by
 match e:c.Kids,h with
 | [x],_=>exact⟨x,rfl⟩
theorem aFv {c:Cond}(h:c.Kids.length=2): ∃x y,c.Kids=[x,y]:=by
 match e:c.Kids,h with
 | [x,y],_=>exact⟨x,y,rfl⟩
theorem aLb (M:Mk) {T P R:Nat} (q:Cond->Bool) (k: ∀c,q c=false->(c.Kind=6->0<=M.ph c.Name/\M.ph c.Name<P)/\(c.Kind=7->0<=M.rl c.Name/\M.rl c.Name<R)):
  ∀(m:Nat) (c:Cond),dN c<=m->Gt c->(∀s∈kH c,0<=M.tr s/\M.tr s<T)->qP q c=false->wfN T P R (mkN M c)
 |0,c,h,_,_,_=>by have:=uF c;omega
 |m+1,c,h,g,l,p=>by
  have b: ∀x∈c.Kids,wfN T P R (mkN M x):=λx a=>by
   obtain⟨_,u⟩:=List.getElem?_of_mem a;exact aLb M q k m x (by have:=(qF g.ok u).2.1;omega) (g.kid a) (λs d=>l s (aJm a d)) (aQy a p)
  have gk:=g.gk;have f:=g.self;have v:=g.kids;have r:=k c (aGr p);have nm: ∀s∈nm1 c,0<=M.tr s/\M.tr s<T:=λs d=>l s (by rw [aAv,mA];exact Or.inl d)
  have g1:=f.fr;have g2:=f.n;rw [mP];rcases kinds f.k1 with e|e|e|e|e|e|e|e|e|e|e|e|e|e|e<;>rw [e]<;>simp only [mkK,Int.reduceEq,if_true,if_false,or_true,true_or,or_self]
  ·exact⟨by omega,by omega⟩
  ·exact⟨by omega,by omega⟩
  ·exact nm c.Name (by unfold nm1;simp [e])
  ·exact⟨nm c.Name (by unfold nm1;simp [e]),nm c.Other (by unfold nm1;simp [e])⟩
  ·have:=gk.fr (by omega);exact⟨nm c.Name (by unfold nm1;simp [e]),⟨by omega,by omega⟩,by simp;omega⟩
  ·exact r.1 e
  ·exact r.2 e
  ·obtain⟨x,a⟩:=jD (gk.o (by omega));rw [a];exact b x (by rw [a];exact List.mem_cons_self)
  ·exact⟨aBh.2 λx a=>by obtain⟨y,i,rfl⟩:=List.mem_map.1 a;exact b y i,by rw [List.length_map];omega⟩
  ·exact⟨aBh.2 λx a=>by obtain⟨y,i,rfl⟩:=List.mem_map.1 a;exact b y i,by rw [List.length_map];omega⟩
  ·obtain⟨x,a⟩:=jD (gk.o (by omega));have:=gk.fr (by omega);rw [a];exact⟨b x (by rw [a];exact List.mem_cons_self),⟨by omega,by omega⟩,⟨by omega,by omega⟩,by simp;omega,by simp,rfl⟩
  ·obtain⟨x,a⟩:=jD (gk.o (by omega));have:=gk.fr (by omega);rw [a];exact⟨b x (by rw [a];exact List.mem_cons_self),⟨by omega,by omega⟩,⟨by omega,by omega⟩,by simp;omega,by simp,rfl⟩
  ·obtain⟨x,a⟩:=jD (gk.o (by omega));have:=gk.fr (by omega);have:=gk.cn e;rw [a];exact⟨b x (by rw [a];exact List.mem_cons_self),⟨by omega,by omega⟩,⟨by omega,by omega⟩,by simp;omega,by simp,rfl⟩
  ·obtain⟨x,y,a⟩:=aFv (gk.t e);rw [a];exact⟨b x (by rw [a];simp),b y (by rw [a];simp),by omega,by omega⟩
  ·obtain⟨x,a⟩:=jD (gk.o (by omega));rw [a];exact⟨b x (by rw [a];exact List.mem_cons_self),by omega,by omega⟩
theorem aUn {a:Type}(p:a->Bool): ∀(l:List a) (i:Nat),∃n,dR (λi x=>if p x=true then some (some (i:Int))else none) (some (-1)) l i=some n/\(l.any p=true->(i:Int)<=n/\n<i+l.length)
 | [],i=>⟨-1,rfl,λh=>by simp at h⟩
 |x::l,i=>by
  rw [dR]
  cases h:p x with
  |true=>exact⟨i,rfl,λ_=>by rw [List.length_cons];omega⟩
  |false=>
   obtain⟨n,b,c⟩:=aUn p l (i+1);refine⟨n,by simpa using b,λq=>?_⟩;rw [List.any_cons,h,Bool.false_or]at q;have:=c q;rw [List.length_cons];omega
def aBx (l:List Str)(s:Str):Int:=(Fai l s).getD (-1)
theorem aEz (l:List Str) (s:Str) (a:l.length<=9223372036854775807):Fai l s=some (aBx l s)/\(s∈l->0<=aBx l s/\aBx l s<l.length):=by
 obtain⟨n,c,d⟩:=aUn (λy=>decide (s=y)) l 0;have e:Fai l s=some n:=by
  unfold Fai;simp only [zI,xB];unfold Fei;rw [<-c];refine yY l _ _ a ?_ ?_
  ·intro f _ x j hi;simp only [zI];rw [yM hi,zU,yR j,zC,fQ hi a]
   cases decide (s=x)<;>rfl
  ·intro f;simp only [zI];rw [yN];rfl
 have b:aBx l s=n:=by unfold aBx;rw [e];rfl
 refine⟨by rw [b];exact e,λh=>?_⟩;have:=d (by rw [List.any_eq_true];exact⟨s,h,by simp⟩);rw [b];omega
def mkrM (k:eF):Mk:=⟨λs=>pY k.tracks s 0,λi=>(at' k.dens i).getD 0,λs=>aBx k.phases s,λs=>pY k.rules s 0⟩
theorem aKy:(Arr.rep 3 0:Arr 3 Int)=wU []:=aRy rfl
theorem at_D {l:List Int}{i:Int}(h:0<=i/\i<l.length):at' l i=some ((at' l i).getD 0):=by
 obtain⟨_,a⟩:=wK h;rw [a];rfl
theorem bCh (k:eF) (j:k.phases.length<=9223372036854775807): ∀(n:Nat) (c:Cond),dN c<=n->Gt c->(∀s∈kH c,0<=pY k.tracks s 0/\pY k.tracks s 0<k.dens.length)->Fa6 n k c=some (mkN (mkrM k) c)
 |0,c,h,_,_=>by have:=uF c;omega
 |n+1,c,h,g,p=>by
  have w:=g.kids;have gk:=g.gk;have q:=g.self;have nm: ∀s∈nm1 c,0<=pY k.tracks s 0/\pY k.tracks s 0<k.dens.length:=λs f=>p s (by rw [aAv,mA];exact Or.inl f)
  have r:Fcv (Fa6 n) k c.Kids=some (c.Kids.map (mkN (mkrM k))):=by
   unfold Fcv Fih;rw [zI];refine(congrArg (λo=>gB o λg=>some g) (dV (λ(i:Nat)=>((c.Kids.take i).map (mkN (mkrM k)),(i:Int))) c.Kids (some (c.Kids.map (mkN (mkrM k)))) (by omega) ?_ ?_)).trans (zC _ _)
   ·intro u i x d hi;obtain⟨k1,_,_⟩:=qF g.ok d;have hm:=qS d;simp only [zI];rw [yM hi,zU,yR d,zC,bCh k j n x (by omega) (g.kid hm) (λs f=>p s (aJm hm f)),zC,aXc (by simp;omega),zC,fQ hi (by omega),jE d,List.map_append];rfl
   ·intro u;simp only [zI];rw [yN,zQ,List.take_length]
  show Fc6 (Fa6 n) k c=_;unfold Fc6;show gB (Fcv (Fa6 n) k c.Kids) _=_;rw [r,zC,mP];have v: ∀(l:List Nd) (x:Nd),l=[x]->at' l 0=some x:=λl x h=>by rw [h];rfl
  rcases kinds q.k1 with e|e|e|e|e|e|e|e|e|e|e|e|e|e|e<;>rw [e]<;>simp only [zI,zC,Int.reduceEq,decide_true,decide_false,zU,zQ,mkK,if_true,if_false,or_true,true_or,or_self]
  ·rfl
  ·have a:=nm c.Name (by unfold nm1;simp [e]);have b:=nm c.Other (by unfold nm1;simp [e]);rw [at_D a,at_D b];rfl
  ·rfl
  ·rw [(aEz k.phases c.Name j).1];rfl
  ·rfl
  ·obtain⟨x,d⟩:=jD (gk.o (by omega));rw [d];rfl
  ·obtain⟨x,d⟩:=jD (gk.o (by omega));rw [d,aKy];rfl
  ·obtain⟨x,d⟩:=jD (gk.o (by omega));rw [d,aKy];rfl
  ·obtain⟨x,d⟩:=jD (gk.o (by omega));rw [d,aKy];rfl
  ·obtain⟨x,_,d⟩:=aFv (gk.t e);rw [d];rfl
  ·obtain⟨x,d⟩:=jD (gk.o (by omega));rw [d];rfl
theorem maker_ok (k:eF)(a:k.phases.length<=9223372036854775807){c:Cond}(g:Gt c)(b: ∀s∈kH c,0<=pY k.tracks s 0/\pY k.tracks s 0<k.dens.length):Fb3 k c=some (mkN (mkrM k) c):=
 bCh k a FU c (Nat.le_of_lt (aBu (by have:=g.d;omega))) g b
def nO:List Str->Nat->List (Str×Int)
 | [],_=>[]
 |s::l,i=>(s,(i:Int))::nO l (i+1)
theorem aGz (s:Str): ∀(l:List Str) (i:Nat),nO (l++[s]) i=nO l i++[(s,((i+l.length:Nat):Int))]
 | [],i=>rfl
 |x::l,i=>by
  rw [List.cons_append,nO,nO,aGz s l (i+1),List.cons_append,List.length_cons,show i+1+l.length=i+(l.length+1)by omega]
theorem aLk (s:Str): ∀(l:List Str) (i:Nat),(nO l i).any (λp=>decide (p.1=s))=l.any (λx=>decide (x=s))
 | [],_=>rfl
 |x::l,i=>by rw [nO,List.any_cons,List.any_cons,aLk s l (i+1)]
theorem aDi (k:Str)(v:Int)(l:List (Str×Int))(s:Str):pY ((k,v)::l) s 0=if k=s then v else pY l s 0:=by
 unfold pY;rw [List.find?_cons];by_cases h:k=s;simp [h];simp [h]
theorem aCa (s:Str): ∀(l:List Str) (i:Nat),s∈l-> ∃j:Nat,pY (nO l i) s 0=((i+j:Nat):Int)/\l[j]? =some s
 | [],_,h=>by simp at h
 |x::l,i,h=>by
  rw [nO,aDi]
  by_cases c:x=s
  ·subst c;exact⟨0,by rw [if_pos rfl];rfl,rfl⟩
  ·obtain⟨j,a,b⟩:=aCa s l (i+1) ((List.mem_cons.1 h).resolve_left (Ne.symm c));exact⟨j+1,by rw [if_neg c,a];congr 1;omega,by simpa using b⟩
def trI (l:List fF)(s:Str):Int:=pY (nO (l.map fF.Name) 0) s 0
def rD (l:List fF):List Int:=l.map λt=>t.Series.Den
theorem aNk {l:List fF}{s:Str}(h:s∈l.map fF.Name):0<=trI l s/\trI l s<l.length:=by
 obtain⟨_,a,b⟩:=aCa s (l.map fF.Name) 0 h;have:=(gS.1 b).1;rw [List.length_map]at this;unfold trI;rw [a];omega
theorem newL1_ok (l:List fF) (h:TK l):Ff9 l (l.length:Int) (0,([]:List (Str×Int)),[])=some (nO (l.map fF.Name) 0,rD l):=by
 have o:=(good_trk h).1;unfold Ff9;refine dV (λ(i:Nat)=>((i:Int),nO ((l.take i).map fF.Name) 0,rD (l.take i))) l (some (nO (l.map fF.Name) 0,rD l)) (by omega) ?_ ?_
 ·intro k i x b hi;have e:(nO ((l.take i).map fF.Name) 0).any (λp=>decide (p.1=x.Name))=false:=by
   rw [aLk,List.any_eq_false];intro _ f;obtain⟨_,n,rfl⟩:=List.mem_map.1 f;obtain⟨_,a⟩:=List.getElem?_of_mem n;rw [List.getElem?_take]at a;split at a
   ·rename_i c;simpa using h.d _ _ _ _ a b c
   ·cases a
  simp only [zI];rw [yM hi,zU,yR b,zC,aGj _ _ e,ap8 (by unfold rD;simp;omega),zC,fQ hi (by omega),jE b,List.map_append,List.map_singleton,aGz];unfold rD;rw [List.map_append,List.length_map,List.length_take,Nat.zero_add,Nat.min_eq_left (by omega)];rfl
 ·intro k;simp only [zI];rw [yN,zQ,List.take_length]
def MkR (r:Rules)(l:List fF)(i:Nat):Mk:=⟨trI l,λi=>(at' (rD l) i).getD 0,λs=>aBx r.Phases s,λs=>pY (nO ((r.Rules.take i).map dA.Name) 0) s 0⟩
def rlN (r:Rules)(l:List fF)(i:Nat)(x:dA):Nd:=mkN (MkR r l i) x.When
def mvN (r:Rules)(l:List fF)(m:dI):fJ:=fJ.mk (aBx r.Phases m.From) (aBx r.Phases m.To) (mkN (MkR r l 0) m.When)
def dP (r:Rules)(l:List fF):gY:=
 gY.mk r.Phases (l.length:Int) (r.Moves.map (mvN r l)) (r.Rules.mapIdx (rlN r l)) ((List.replicate r.Phases.length false).set 0 true)
structure GB (r:Rules)(l:List fF):Prop where
 ok:okR r
 c:chk r=some 0
 t:TK l
 n: ∀s∈nK r,s∈l.map fF.Name
theorem GB.g {r:Rules}{l:List fF}(h:GB r l):Gr' r:=aLl h.ok h.c
theorem nm_mv {r:Rules}{m:dI}(hm:m∈r.Moves){s:Str}(a:s∈kH m.When):s∈nK r:=by
 unfold nK;rw [mA,List.mem_flatMap,List.mem_flatMap];exact Or.inl ⟨m,hm,a⟩
theorem nm_rl {r:Rules}{x:dA}(hm:x∈r.Rules){s:Str}(a:s∈kH x.When):s∈nK r:=by
 unfold nK;rw [mA,List.mem_flatMap,List.mem_flatMap];exact Or.inr ⟨x,hm,a⟩
theorem aUm {r:Rules}{l:List fF}(h:GB r l)(i:Nat){c:Cond}(g:Gt c)(a: ∀s∈kH c,s∈nK r):Fb3 (eF.mk (nO (l.map fF.Name) 0) (rD l) r.Phases (nO ((r.Rules.take i).map dA.Name) 0)) c=some (mkN (MkR r l i) c):=by
 have d:=h.g.p;refine maker_ok _ (by show r.Phases.length<=_;omega) g λs b=>?_;have:=aNk (h.n s (a s b));show 0<=trI l s/\trI l s<(rD l).length;unfold rD;rw [List.length_map];exact this
theorem newL2_ok {r:Rules}{l:List fF} (h:GB r l):Fhd r (nO (l.map fF.Name) 0) (rD l) (r.Moves.length:Int) (0,[])=some (r.Moves.map (mvN r l)):=by
 have g:=h.g;have hm:=g.m;have f:=g.p;unfold Fhd;refine dV (λ(i:Nat)=>((i:Int),(r.Moves.take i).map (mvN r l))) r.Moves (some (r.Moves.map (mvN r l))) (by omega) ?_ ?_
 ·intro k i x a hi;have c:=qS a;have e:=aUm h 0 (g.mg x c).1 λ_ d=>nm_mv c d
  rw [List.take_zero]at e;change Fb3 (eF.mk (nO (l.map fF.Name) 0) (rD l) r.Phases []) x.When=_ at e;have b:app' 32 ((r.Moves.take i).map (mvN r l)) [mvN r l x]=some ((r.Moves.take i).map (mvN r l)++[mvN r l x]):=by
   unfold app';rw [if_pos ⟨by rw [maxLen_eq];simp;omega,by simp;omega⟩]
  simp only [zI];rw [yM hi,zU,yR a,zC,(aEz r.Phases x.From (by omega)).1,(aEz r.Phases x.To (by omega)).1,zC,zC,e,zC];show gB (app' 32 ((r.Moves.take i).map (mvN r l)) [mvN r l x]) _=_;rw [b,zC,fQ hi (by omega),jE a,List.map_append];rfl
 ·intro k;simp only [zI];rw [yN,zQ,List.take_length]
theorem aTd {a β:Type}(f:Nat->a->β)(l:List a)(x:a):(l++[x]).mapIdx f=l.mapIdx f++[f l.length x]:=by
 rw [List.mapIdx_append];simp
theorem newL3_ok {r:Rules}{l:List fF} (h:GB r l):Fhb r (nO (l.map fF.Name) 0) (rD l) (r.Rules.length:Int) (0,([]:List (Str×Int)),[])=some (r.Rules.mapIdx (rlN r l)):=by
 have g:=h.g;have o:=g.l;have f:=aXn h.c;unfold Fhb;refine dV (λ(i:Nat)=>((i:Int),nO ((r.Rules.take i).map dA.Name) 0,(r.Rules.take i).mapIdx (rlN r l))) r.Rules (some (r.Rules.mapIdx (rlN r l))) (by omega) ?_ ?_
 ·intro k i x b hi;have d:=qS b;have e:=aUm h i (g.lg x d).1 λ_ j=>nm_rl d j
  have n:(nO ((r.Rules.take i).map dA.Name) 0).any (λp=>decide (p.1=x.Name))=false:=by
   rw [aLk,List.any_map];exact(f i x b).1
  have a:(r.Rules.take i).length=i:=by rw [List.length_take];omega
  simp only [zI];rw [yM hi,zU,yR b,zC,e,zC,aXc (by simp;omega),zC,aGj _ _ n,fQ hi (by omega),jE b,aTd,List.map_append,List.map_singleton,aGz,a,List.length_map,a,Nat.zero_add];rfl
 ·intro k;simp only [zI];rw [yN,zQ,List.take_length]
theorem aPx (l:List Str)(h:l.length<=1000000):Fb1 l=some l:=by
 unfold Fb1;have e:app' 16 ([]:List Str) l=some l:=by
  unfold app';rw [if_pos ⟨by rw [maxLen_eq];simp;omega,by simp;omega⟩,List.nil_append]
 rw [e]
 cases l with
 |nil=>rfl
 |cons _ l=>rfl
theorem aUv {r:Rules}{l:List fF}(h:GB r l):Fe9 r l=some (dP r l):=by
 have d:=h.g.p;unfold Fe9;simp only [zI];rw [newL1_ok l h.t,zC];dsimp only;rw [aPx _ (by omega),zC];have mk:make' 1 (r.Phases.length:Int) false=some (List.replicate r.Phases.length false):=by
  unfold make';rw [if_pos ⟨by omega,by omega,by omega⟩,Int.toNat_natCast]
 rw [mk,zC,newL2_ok h,newL3_ok h];simp only [zC];have e:(gQ (decide (0<(r.Phases.length:Int))) (gB (at' (List.replicate r.Phases.length false) 0) λ_=>gB (set' (List.replicate r.Phases.length false) 0 true) λa=>some a) (some (List.replicate r.Phases.length false)))=some ((List.replicate r.Phases.length false).set 0 true):=by
  cases hP:r.Phases.length with
  |zero=>rfl
  |succ n=>
   rw [dT (by omega),zU];obtain⟨_,c⟩:=wK (l:=List.replicate (n+1) false) (i:=0) ⟨by omega,by simp⟩;rw [c,zC,aXs ⟨by omega,by simp⟩];rfl
 rw [e,zC];rfl
theorem mv_ok {r:Rules} (h:chk r=some 0) {m:dI} (hm:m∈r.Moves):m.From∈r.Phases/\m.To∈r.Phases/\qP pMv m.When=false:=by
 unfold chk at h;split at h
 ·exact absurd (oI h) (by decide)
 ·obtain⟨b,e⟩:=jZ (phE r.Phases) _ _ _ h;obtain⟨_,j⟩:=jZ (λ_=>mvE r) _ _ _ b;obtain⟨i,hi⟩:=List.getElem?_of_mem hm;have:=j i m hi;unfold mvE at this;split at this
  ·rename_i c;split at this
   ·split at this
    ·exact absurd this (by decide)
    ·rename_i d;have a: ∀{s:Str},(r.Phases.any λy=>decide (s=y))=true->s∈r.Phases:=by
      intro s f;rw [List.any_eq_true]at f;obtain⟨y,b,e⟩:=f;rw [of_decide_eq_true e];exact b
     exact⟨a c.1,a c.2,by simpa using d⟩
   ·rename_i d;exact absurd this d
  ·exact absurd this (by decide)
theorem aWw {r:Rules}{l:List fF}(h:GB r l){s:Str}(a:s∈r.Phases):0<=aBx r.Phases s/\aBx r.Phases s<r.Phases.length:=(aEz r.Phases s (by have:=h.g.p;omega)).2 a
theorem nmd_mem {l:List dA}{s:Str}(h:nmd l s=true):s∈l.map dA.Name:=by
 unfold nmd at h;rw [List.any_eq_true]at h;obtain⟨_,a,b⟩:=h;rw [<-of_decide_eq_true b];exact List.mem_map_of_mem a
theorem aGs {r:Rules} (i:Nat) {c:Cond} (h:pRl r i c=false):(c.Kind=6->c.Name∈r.Phases)/\(c.Kind=7->c.Name∈(r.Rules.take i).map dA.Name):=by
 unfold pRl at h;rw [Bool.or_eq_false_iff]at h;refine⟨λe=>?_,λe=>?_⟩;have a:=h.1;rw [e,dT rfl,Bool.true_and,Bool.not_eq_false']at a;rw [List.any_eq_true]at a;obtain⟨_,b,d⟩:=a;rw [of_decide_eq_true d];exact b;have a:=h.2;rw [e,dT rfl,Bool.true_and,Bool.not_eq_false']at a;exact nmd_mem a
theorem rH {r:Rules}{l:List fF} (h:GB r l):WfW (dP r l) l.length r.Phases.length:=by
 have g:=h.g;have C:=g.p;have v:=aXn h.c;have tr: ∀s∈nK r,0<=trI l s/\trI l s<l.length:=λs b=>aNk (h.n s b)
 refine⟨rfl,by show((List.replicate _ _).set _ _).length=_;simp,by omega,rfl,by show(r.Moves.map _).length<=_;have:=g.m;simp;omega,by show(r.Rules.mapIdx _).length<=_;have:=g.l;simp;omega,λx f=>?_,λi k o=>?_⟩
 ·obtain⟨m,hm,rfl⟩:=List.mem_map.1 f;obtain⟨m1,m2,m3⟩:=mv_ok h.c hm;have q:=(g.mg m hm).1;have d:=aZj (MkR r l 0) m.When;have w:=q.d;refine⟨aWw h m2,?_,by show dpN (mkN (MkR r l 0) m.When)<=_;omega⟩;refine aLb (MkR r l 0) pMv (λc a=>?_) (dN m.When) m.When (Nat.le_refl _) q (λs b=>tr s (nm_mv hm b)) m3;unfold pMv at a;constructor
  ·intro e;rw [e]at a;simp at a
  ·intro e;rw [e]at a;simp at a
 ·change (r.Rules.mapIdx (rlN r l))[i]? =some k at o;rw [List.getElem?_mapIdx,Option.map_eq_some_iff]at o;obtain⟨x,f,rfl⟩:=o;have t:=qS f;have u:=(g.lg x t).1;have d:=aZj (MkR r l i) x.When;have w:=u.d;refine⟨?_,by show dpN (mkN (MkR r l i) x.When)<=_;omega⟩;refine aLb (MkR r l i) (pRl r i) (λc a=>?_) (dN x.When) x.When (Nat.le_refl _) u (λs b=>tr s (nm_rl t b)) (v i x f).2;obtain⟨y,z⟩:=aGs i a;refine⟨λe=>aWw h (y e),λe=>?_⟩;obtain⟨_,A,B⟩:=aCa c.Name ((r.Rules.take i).map dA.Name) 0 (z e);have:=(gS.1 B).1;rw [List.length_map,List.length_take]at this;show 0<=pY (nO ((r.Rules.take i).map dA.Name) 0) c.Name 0/\pY (nO ((r.Rules.take i).map dA.Name) 0) c.Name 0<(i:Int);rw [A];omega
theorem aSx (l:List fF) (s:Str) (b:l.length<=9223372036854775807):Fen l s=some (l.any λt=>decide (t.Name=s)):=by
 obtain⟨n,c,d⟩:=aRw (λ(_:Nat) (y:fF)=>decide (y.Name=s)) l 0;have e:Fe3 l s=some n:=by
  unfold Fe3;simp only [zI,xB];unfold Fh6;rw [<-c];refine yY l _ _ b ?_ ?_
  ·intro f i x h hi;unfold Fgc;simp only [zI,zC];rw [yM hi,zU,yR h,zC,fQ hi b]
   cases decide (x.Name=s)<;>rfl
  ·intro f;simp only [zI];rw [yN];rfl
 have a: ∀(l:List fF) (i:Nat),pX (λ_ y=>decide (y.Name=s)) l i=l.any λt=>decide (t.Name=s):=by
  intro l
  induction l with
  |nil=>intro i;rfl
  |cons x l j=>intro i;rw [pX,j,List.any_cons]
 unfold Fen;rw [e];simp only [zI,zC,d,a]
def aAl (r:Rules)(l:List fF):Int:=
 if (chk r).getD 0≠0 then(chk r).getD 0 else if aNp l≠0 then aNp l else if (aVm r).all (λs=>l.any λt=>decide (t.Name=s))=true then 0 else 4
theorem aQq {r:Rules}(g:Gr' r):Fc7 r=some (aVm r):=by
 rw [aWa g,aVj];rfl
theorem aSa {r:Rules}{l:List fF} (c:okR r) (d:okL sU l):Fev r l=some (aAl r l):=by
 obtain⟨e,f⟩:=aMc r;unfold Fev aAl;rw [Check_eq r c,f,zC];simp only [zI,Option.getD_some,xE]
 by_cases z:e=0
 ·subst z;have g:=aLl c f;rw [if_neg (by simp),if_neg (by simp),aLr l d,aSg,zC]
  by_cases y:aNp l=0
  ·rw [if_neg (by simpa using y),if_neg (by simpa using y),xB,aQq g,zC];have n:=aTm g;unfold Fid;rw [yY (aVm r) (λ_ s=>if (l.any λt=>decide (t.Name=s))=true then none else some (some 4)) (some 0) (by omega) ?_ ?_]
   ·have b: ∀(a:List Str) (i:Nat),dR (λ_ s=>if (l.any λt=>decide (t.Name=s))=true then none else some (some (4:Int))) (some 0) a i=some (if a.all (λs=>l.any λt=>decide (t.Name=s))=true then 0 else 4):=by
     intro a
     induction a with
     |nil=>intro i;rfl
     |cons s a h=>
      intro i;rw [dR,List.all_cons]
      cases(l.any λt=>decide (t.Name=s))
      ·rfl
      ·simpa using h (i+1)
    rw [b]
   ·intro j i x k hi;simp only [zI];rw [yM hi,zU,yR k,zC,aSx l x d.1,zC,fQ hi (by omega)]
    cases(l.any λt=>decide (t.Name=x))<;>rfl
   ·intro j;simp only [zI];rw [yN,zQ]
  ·rw [if_pos y,if_pos y]
 ·rw [if_pos z,if_pos z]
theorem aRj {r:Rules}{l:List fF} (c:okR r) (h:aAl r l=0):GB r l:=by
 obtain⟨e,b⟩:=aMc r;unfold aAl at h;rw [b]at h;simp only [Option.getD_some]at h;by_cases z:e=0;subst z;rw [if_neg (by simp)]at h;by_cases y:aNp l=0;rw [if_neg (by simpa using y)]at h;split at h;rename_i a;refine⟨c,b,tk_of y,λs d=>?_⟩;rw [List.all_eq_true]at a;have m:s∈aVm r:=by unfold aVm;rw [aNl];exact Or.inr d
 have:=a s m;rw [List.any_eq_true]at this;obtain⟨_,f,i⟩:=this;rw [<-of_decide_eq_true i];exact List.mem_map_of_mem f;exact absurd h (by decide);rw [if_pos y]at h;exact absurd h y;rw [if_pos z]at h;exact absurd h z
def phL:List Bool->List Str->List Str
 |true::bs,s::ss=>s::phL bs ss
 |false::bs,_::ss=>phL bs ss
 |_,_=>[]
theorem aGd (b:Bool)(s:Str): ∀(bs:List Bool) (ss:List Str),bs.length=ss.length->phL (bs++[b]) (ss++[s])=phL bs ss++if b=true then [s]else []
 | [],[],_=>by cases b<;>rfl
 | [],_::_,h=>by simp at h
 |_::_,[],h=>by simp at h
 |true::bs,x::ss,h=>by
  rw [List.cons_append,List.cons_append,phL,phL,aGd b s bs ss (by simpa using h),List.cons_append]
 |false::bs,x::ss,h=>by
  rw [List.cons_append,List.cons_append,phL,phL,aGd b s bs ss (by simpa using h)]
theorem aSt: ∀(bs:List Bool) (ss:List Str) (s:Str),s∈phL bs ss↔ ∃i:Nat,bs[i]? =some true/\ss[i]? =some s
 | [],ss,s=>by simp [phL]
 |b::bs,[],s=>by cases b<;>simp [phL]
 |true::bs,x::ss,s=>by
  rw [phL,List.mem_cons,aSt bs ss s];constructor
  ·rintro(rfl|⟨i,a,c⟩)
   ·exact⟨0,rfl,rfl⟩
   ·exact⟨i+1,by simpa using a,by simpa using c⟩
  ·rintro⟨i,a,c⟩
   cases i with
   |zero=>left;simpa using c.symm
   |succ i=>right;exact⟨i,by simpa using a,by simpa using c⟩
 |false::bs,x::ss,s=>by
  rw [phL,aSt bs ss s];constructor
  ·rintro⟨i,a,c⟩;exact⟨i+1,by simpa using a,by simpa using c⟩
  ·rintro⟨i,a,c⟩
   cases i with
   |zero=>simp at a
   |succ i=>exact⟨i,by simpa using a,by simpa using c⟩
theorem aDm: ∀(bs:List Bool) (ss:List Str),(phL bs ss).length<=ss.length
 | [],ss=>by simp [phL]
 |b::bs,[]=>by cases b<;>simp [phL]
 |true::bs,x::ss=>by rw [phL,List.length_cons,List.length_cons];have:=aDm bs ss;omega
 |false::bs,x::ss=>by rw [phL,List.length_cons];have:=aDm bs ss;omega
theorem aUj {w:gY}{T P:Nat} (h:WfW w T P):Fa2 w=some (phL w.possible w.phases):=by
 have d:=h.pb;have e:=h.po;have f:=h.ph;unfold Fa2 Fje;rw [zI];refine(congrArg (λo=>gB o λg=>some g) (dV (λ(i:Nat)=>(phL (w.possible.take i) (w.phases.take i),(i:Int))) w.possible (some (phL w.possible w.phases)) (by omega) ?_ ?_)).trans (zC _ _);intro k i x b hi;have a:i<w.phases.length:=by omega
 have c:w.phases[i]? =some w.phases[i]:=gE a;have j:=aDm (w.possible.take i) (w.phases.take i);have l:(w.phases.take i).length<=w.phases.length:=by rw [List.length_take];omega
 simp only [zI];rw [yM hi,zU,yR b,yR c,fQ hi (by omega),jE b,jE c,aGd _ _ _ _ (by simp;omega)];simp only [zC];cases x;simp [gQ,gB];rw [zU,aXc (by omega),zC];rfl;intro k;simp only [zI];rw [yN,zQ,List.take_length,List.take_of_length_le (by omega)]
end Go.Lf
