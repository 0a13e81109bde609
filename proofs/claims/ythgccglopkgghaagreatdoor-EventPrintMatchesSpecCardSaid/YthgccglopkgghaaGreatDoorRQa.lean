/- Laws that the claim stands on; no condition beyond those stated. -/
import Derived.Test.YthgccglopkgghaaGreatDoorRDa
namespace Go.Lf
open Go.OB
structure Gz (c:Cond):Prop where
 a0:c.Kind≠3->c.Kind≠4->c.Kind≠5->c.Kind≠6->c.Kind≠7->c.Name=[]
 a1:(c.Kind=3\/c.Kind=4\/c.Kind=5\/c.Kind=6\/c.Kind=7)->nV c.Name=true
 b0:c.Kind≠4->c.Other=[]
 b1:c.Kind=4->nV c.Other=true
 o0:c.Kind≠3->c.Kind≠4->c.Op=0
 n0:c.Kind≠3->c.Kind≠5->c.Kind≠13->c.N=0
 f0:c.Kind≠5->c.Kind≠11->c.Kind≠12->c.Kind≠13->c.Frames=0
set_option maxHeartbeats 20000000 in
theorem gz_in (nm ot:Str)(op n fr:Int)(ks:List Cond)(k:Int)(hk2:k=1\/k=2\/k=3\/k=4\/k=5\/k=6\/k=7\/k=8\/k=9\/k=10\/k=11\/k=12\/k=13\/k=14\/k=15)(h1:okS nm)(h2:okS ot)(h:Fan ⟨k,nm,ot,op,n,fr,ks⟩=some 0):Gz ⟨k,nm,ot,op,n,fr,ks⟩:=by
  rcases hk2 with rfl | rfl | rfl | rfl | rfl | rfl | rfl | rfl | rfl | rfl | rfl | rfl | rfl | rfl | rfl<;>
    (unfold Fan at h
     simp only [rf1,rf2,rf3,rf4,rf5,rf6,rf7,rf8,rf9,rf10,rf11,rf12,rf13,rf14,rf15,zA,zS,Bool.not_true,Bool.not_false,zI,zH,yU,out6,kS _ h1,kS _ h2,Int.reduceEq,Int.reduceLT,Int.reduceLE,decide_true,decide_false,Bool.or_self,aAm,kH,aCa] at h;simp only [wI] at h;constructor<;>grind)
theorem gz_of {c:Cond} (d:okC c) (f:c.Kids.length<=200) (h:ck1 c=0):Gz c:=by
 have e:=(aEj c (aEn d) f).2;rw [h]at e;by_cases a:1<=c.Kind/\c.Kind<=15;have o:=aEn d;obtain⟨k,i,j,l,n,p,q⟩:=c;have b:k=1\/k=2\/k=3\/k=4\/k=5\/k=6\/k=7\/k=8\/k=9\/k=10\/k=11\/k=12\/k=13\/k=14\/k=15:=by have:=a.1;have:=a.2;simp only at *;omega
 exact gz_in i j l n p q k b o.1 o.2 e;rw [(chk_no c a).2]at e;cases e
theorem Gt.gz {c:Cond}(g:Gt c):Gz c:=by
 have h:=g.e;rw [aDc]at h;have a:=vY c.Kids;have b:=aAa c;have d:=g.n;split at h;rename_i q;exact gz_of g.ok (by omega) q;rename_i q;exact absurd h q
def opS (n:Int):Str:=if n=1 then [60]else if n=2 then [60,61]else if n=3 then [61]else if n=4 then [33,61]else if n=5 then [62,61]else [62]
def jnT (a:Str):List Str->Str
 | []=>[]
 |b::l=>a++b++jnT a l
def jn (b:Str):List Str->Str
 | []=>[]
 |a::l=>a++jnT b l
theorem jnT_eq (a:Str): ∀l:List Str,jnT a l=(l.map (a++ ·)).flatten
 | []=>rfl
 |b::l=>by rw [jnT,jnT_eq a l,List.map_cons,List.flatten_cons]
theorem jnT_snoc (a x:Str): ∀l:List Str,jnT a (l++[x])=jnT a l++a++x
 | []=>by simp [jnT]
 |b::l=>by rw [List.cons_append,jnT,jnT,jnT_snoc a x l];simp [List.append_assoc]
theorem jn_snoc (b x a:Str)(l:List Str):jn b (a::l++[x])=jn b (a::l)++b++x:=by
 rw [List.cons_append,jn,jn,jnT_snoc];simp [List.append_assoc]
mutual
def tx:Cond->Nat->Str
 |⟨k,b,e,d,n,c,a⟩,x=>
  if k=9 then if x=2\/x=3 then [40]++jn [32,97,110,100,32] (txs a 2)++[41]else jn [32,97,110,100,32] (txs a 2)
  else if k=10 then if x≠0 then [40]++jn [32,111,114,32] (txs a 1)++[41]else jn [32,111,114,32] (txs a 1)
  else if k=1 then [116,114,117,101]
  else if k=2 then [102,97,108,115,101]
  else if k=3 then b++[32]++opS d++[32]++Lib.itoa n
  else if k=4 then b++[32]++opS d++[32]++e
  else if k=5 then [115,116,101,97,100,121,32]++b++[32]++Lib.itoa n++[32]++Lib.itoa c
  else if k=6 then [112,104,97,115,101,32]++b
  else if k=7 then [114,117,108,101,32]++b
  else if k=8 then [110,111,116,32]++jn [32] (txs a 3)
  else if k=11 then [102,111,114,32]++Lib.itoa c++[32]++jn [32] (txs a 3)
  else if k=12 then [119,105,116,104,105,110,32]++Lib.itoa c++[32]++jn [32] (txs a 3)
  else if k=13 then [99,111,117,110,116,32]++Lib.itoa n++[32,111,102,32]++Lib.itoa c++[32]++jn [32] (txs a 3)
  else if k=15 then [114,105,115,101,115,32]++jn [32] (txs a 3)
  else [115,105,110,99,101,32]++jn [32] (txs a 3)
def txs:List Cond->Nat->List Str
 | [],_=>[]
 |c::l,x=>tx c x::txs l x
end
theorem txs_map (x:Nat): ∀l:List Cond,txs l x=l.map λc=>tx c x
 | []=>rfl
 |c::l=>by rw [txs,txs_map x l];rfl
theorem txs_len (x:Nat)(l:List Cond):(txs l x).length=l.length:=by rw [txs_map,List.length_map]
theorem aLy (a:Str)(f:Cond->Str)(b:a.length<=6): ∀l:List Cond,(∀c∈l,(f c).length+10<=200*cN c)->(jnT a (l.map f)).length<=200*cNs l
 | [],_=>Nat.zero_le _
 |c::l,h=>by
  rw [List.map_cons,jnT,List.length_append,List.length_append,cNs];have i:=h c List.mem_cons_self;have j:=aLy a f b l λd e=>h d (List.mem_cons_of_mem _ e)
  omega
theorem aKu (a:Str)(f:Cond->Str)(b:a.length<=6)(l:List Cond)(h: ∀c∈l,(f c).length+10<=200*cN c):(jn a (l.map f)).length<=200*cNs l:=by
 cases l with
 |nil=>exact Nat.zero_le _
 |cons c l=>
  rw [List.map_cons,jn,List.length_append,cNs];have i:=h c List.mem_cons_self;have j:=aLy a f b l λd e=>h d (List.mem_cons_of_mem _ e)
  omega
theorem opS_len (n:Int):(opS n).length<=2:=by
 unfold opS
 repeat' split
 all_goals decide
theorem itoa_len {n:Int}(h: -1125899906842624<=n/\n<=1125899906842624):(Lib.itoa n).length<=21:=Lib.itoa_length_le n (by omega) (by omega)
theorem yY: ∀(n:Nat) (c:Cond) (x:Nat),dN c<=n->Gt c->(tx c x).length+10<=200*cN c
 |0,c,_,h,_=>by have:=sD c;omega
 |n+1,c,x,h,g=>by
  have e: ∀(y:Nat) (a:Str),a.length<=6->(jn a (txs c.Kids y)).length<=200*cNs c.Kids:=λy a l=>by
   rw [txs_map];refine aKu a _ l c.Kids λd i=>?_
   obtain⟨_,o⟩:=List.getElem?_of_mem i;have:=(sZ g.ok o).2.1;exact yY n d y (by omega) (g.kid i)
  have p:=aAa c;have b:=g.self;have q:=itoa_len b.n;have s:=itoa_len (n:=c.Frames) ⟨by have:=b.fr;omega,by have:=b.fr;omega⟩;have u:=opS_len c.Op;have v:=b.nm;have A:=b.ot;have k1:=e 1 [32,111,114,32] (by decide);have B:=e 2 [32,97,110,100,32] (by decide);have C:=e 3 [32] (by decide);obtain⟨k,nm,ot,_,m,fr,_⟩:=c;dsimp only at q s u v A k1 B C p;have f:k=1\/k=2\/k=3\/k=4\/k=5\/k=6\/k=7\/k=8\/k=9\/k=10\/k=11\/k=12\/k=13\/k=14\/k=15:=by have:=b.k1;dsimp only at this;omega
  rw [tx];rcases f with rfl|rfl|rfl|rfl|rfl|rfl|rfl|rfl|rfl|rfl|rfl|rfl|rfl|rfl|rfl<;>simp only [Int.reduceEq,↓reduceIte]
  case inr.inr.inr.inr.inr.inr.inr.inr.inl=>
   by_cases z:x=2\/x=3
   ·rw [if_pos z];simp only [List.length_append,List.length_cons,List.length_nil];omega
   ·rw [if_neg z];omega
  case inr.inr.inr.inr.inr.inr.inr.inr.inr.inl=>
   by_cases z:x≠0
   ·rw [if_pos z];simp only [List.length_append,List.length_cons,List.length_nil];omega
   ·rw [if_neg z];omega
  all_goals first |(simp only [List.length_append,List.length_cons,List.length_nil];omega)|omega
theorem cat_ok {s t:Str}(h:s.length+t.length<=100000000):cat' s t=some (s++t):=by
 unfold cat';rw [if_pos (by omega)]
theorem itoa_ok {n:Int}(h: -1125899906842624<=n/\n<=1125899906842624):Fat n=some (Lib.itoa n):=by
 unfold Fat Feu Fdx;rw [if_pos ⟨rfl,by omega,by omega⟩];rfl
theorem join_jn (b:Str)(l:List Str):Lib.join l b=jn b l:=by
 cases l with
 |nil=>rfl
 |cons _ l=>rw [Lib.join_cons,jn,jnT_eq];rfl
theorem aMt {n:Int}(h:1<=n/\n<=6):at' zU.l n=some (opS n)/\at' ([[60],[60,61],[61],[33,61],[62,61],[62]]:List Str) (n-1)=some (opS n):=by
 have:n=1\/n=2\/n=3\/n=4\/n=5\/n=6:=by omega
 rcases this with rfl|rfl|rfl|rfl|rfl|rfl<;>exact⟨rfl,rfl⟩
theorem joined_ok {rfO:Cond->Int->Option Str}(a:List Cond)(w:Str)(x:Nat)(p:w.length<=3)(q:a.length<=200)(u:(jn ([32]++w++[32]) (txs a x)).length<=1000000)
  (h: ∀c∈a,rfO c (x:Int)=some (tx c x)):Fdt rfO a w (x:Int)=some (jn ([32]++w++[32]) (txs a x)):=by
 unfold Fdt Fgo;simp only [zS];obtain⟨r,n,o⟩:=qF (body:=λb (g:List Str×Int)=>match g with |⟨g352,g354⟩=>gV (decide (g354<(a.length:Int))) (gI (at' a g354) λd=>gI (rfO d (x:Int)) λe=>gI (app' 16 g352 ([e]:List Str)) λf=>b (f,IntKind.i64.wrap (g354+1))) (some g352))
  (λ(i:Nat) (s:List Str)=>(s,(i:Int))) a (λi s=>s=(a.take i).map λc=>tx c x) (λr=>r=txs a x) (by omega)
  (λk i s c j hi l=>by
   subst l;refine⟨(a.take (i+1)).map λc=>tx c x,rfl,?_⟩;dsimp only;rw [xJ hi,zI,bD j,zA,h c (mG j),zA,apc (by decide) (by rw [List.length_map,List.length_take];omega),zA,dM hi (by omega),take_snoc j,List.map_append];rfl)
  (λk s l=>by
   subst l;dsimp only;rw [xI,zH,List.take_length];exact⟨_,rfl,(txs_map x a).symm⟩) [] rfl
 rw [show(fG _ (([]:List Str),(0:Int)):Option (List Str))=_ from n,zA,o,cat_ok (by simp;omega),zA,cat_ok (by simp;omega),zA];unfold Fe5;rw [join_jn,if_pos ⟨by rw [txs_len];omega,by omega⟩];rfl
theorem cNs_take: ∀(l:List Cond) (j:Nat),cNs (l.take j)<=cNs l:=by
 intro l
 induction l with
 |nil=>intro j;simp [cNs]
 |cons _ l b=>intro j;cases j with
  |zero=>simp [cNs]
  |succ j=>rw [List.take_succ_cons,cNs,cNs];have:=b j;omega
theorem jn_one (a s:Str):jn a [s]=s:=by rw [jn,jnT,List.append_nil]
theorem one_of {l:List Cond}(h:l.length=1): ∃d,l=[d]:=by
 match l,h with
 | [d],_=>exact⟨d,rfl⟩
theorem two_of {l:List Cond}(h:l.length=2): ∃d e,l=[d,e]:=by
 match l,h with
 | [d,e],_=>exact⟨d,e,rfl⟩
theorem kid1 {rfO:Cond->Int->Option Str}(c d:Cond)(a:c.Kids=[d])(h:rfO d (3:Nat)=some (tx d 3))(f:(tx d 3).length<=40000):Fbm rfO c=some (tx d 3):=by
 unfold Fbm;have e:jn ([32]++[]++[32]) (txs [d] 3)=tx d 3:=jn_one _ _;have:=joined_ok (rfO:=rfO) [d] [] 3 (by decide) (by show 1<=200;decide) (by rw [e];omega) (λc b=>by rw [mS.1 b];exact h);rw [e]at this;rw [a,show(3:Int)=((3:Nat):Int)from rfl,this,zA]
theorem condText_R: ∀(n:Nat) (c:Cond) (x:Nat),dN c<=n->Gt c->x<=3->Fdm n c (x:Int)=some (tx c x)
 |0,c,_,h,_,_=>by have:=sD c;omega
 |n+1,c,x,h,g,_=>by
  show Feb (Fdm n) c (x:Int)=some (tx c x);have l: ∀d∈c.Kids,dN d<=n/\Gt d:=λd i=>by
   obtain⟨j,C⟩:=List.getElem?_of_mem i;have:=(sZ g.ok C).2.1;exact⟨by omega,g.kid i⟩
  have D: ∀d∈c.Kids,∀y,(tx d y).length<=40000:=λd i y=>by
   have R:=yY n d y (l d i).1 (l d i).2;have h2:=(l d i).2.n;omega
  have O:=g.n;have F:=aAa c;have G:=vY c.Kids;have H: ∀(y:Nat) (u:Str),u.length<=6-> ∀j,(jn u ((c.Kids.take j).map λd=>tx d y)).length<=40000:=λy u S j=>by
   have h0:=cNs_take c.Kids j;have R:=aKu u (λd=>tx d y) S (c.Kids.take j) λd i=>by
    have P:=List.mem_of_mem_take i;exact yY n d y (l d P).1 (l d P).2
   omega
  have s:=g.self;have gk:=g.gk;have v:=itoa_ok s.n;have q:=itoa_ok (n:=c.Frames) ⟨by have:=s.fr;omega,by have:=s.fr;omega⟩;have J:=itoa_len s.n;have K:=itoa_len (n:=c.Frames) ⟨by have:=s.fr;omega,by have:=s.fr;omega⟩;have T:=opS_len c.Op;have nl:=s.nm;have X:=s.ot;have Y:=s.k1;have I:=s.op;have z: ∀d∈c.Kids,∀y,y<=3->Fdm n d (y:Nat)=some (tx d y):=λd i y hy=>condText_R n d y (l d i).1 (l d i).2 hy
  obtain⟨k,nm,ot,op,m,fr,a⟩:=c;have M:k=1\/k=2\/k=3\/k=4\/k=5\/k=6\/k=7\/k=8\/k=9\/k=10\/k=11\/k=12\/k=13\/k=14\/k=15:=by dsimp only at Y;omega
  dsimp only at v q J K T nl X;unfold Feb;simp only [zS];rw [tx];rcases M with rfl|rfl|rfl|rfl|rfl|rfl|rfl|rfl|rfl|rfl|rfl|rfl|rfl|rfl|rfl
  ·skip
   simp only [Int.reduceEq,decide_true,decide_false,zI,zH,↓reduceIte]
  ·skip
   simp only [Int.reduceEq,decide_true,decide_false,zI,zH,↓reduceIte]
  ·skip
   have N:=aMt (n:=op) ⟨by have:=gk.op (by simp);dsimp only at this I;omega,by dsimp only at I;omega⟩;simp only [Int.reduceEq,decide_true,decide_false,zI,zH,↓reduceIte];rw [cat_ok (by simp only [List.length_cons,List.length_nil];omega),zA,N.1,zA]
   iterate 2 rw [cat_ok (by simp only [List.length_append,List.length_cons,List.length_nil];omega),zA]
   rw [v,zA];rw [cat_ok (by simp only [List.length_append,List.length_cons,List.length_nil];omega),zA]
  ·skip
   have N:=aMt (n:=op) ⟨by have:=gk.op (by simp);dsimp only at this I;omega,by dsimp only at I;omega⟩;simp only [Int.reduceEq,decide_true,decide_false,zI,zH,↓reduceIte];rw [cat_ok (by simp only [List.length_cons,List.length_nil];omega),zA,N.1,zA]
   iterate 2 rw [cat_ok (by simp only [List.length_append,List.length_cons,List.length_nil];omega),zA]
   rw [cat_ok (by simp only [List.length_append,List.length_cons,List.length_nil];omega),zA]
  ·skip
   simp only [Int.reduceEq,decide_true,decide_false,zI,zH,↓reduceIte]
   iterate 2 rw [cat_ok (by simp only [List.length_append,List.length_cons,List.length_nil];omega),zA]
   rw [v,zA]
   iterate 2 rw [cat_ok (by simp only [List.length_append,List.length_cons,List.length_nil];omega),zA]
   rw [q,zA];rw [cat_ok (by simp only [List.length_append,List.length_cons,List.length_nil];omega),zA]
  ·skip
   simp only [Int.reduceEq,decide_true,decide_false,zI,zH,↓reduceIte];rw [cat_ok (by simp only [List.length_cons,List.length_nil];omega),zA]
  ·skip
   simp only [Int.reduceEq,decide_true,decide_false,zI,zH,↓reduceIte];rw [cat_ok (by simp only [List.length_cons,List.length_nil];omega),zA]
  ·skip
   obtain⟨d,rfl⟩:=one_of (gk.o (by simp));have i:=D d List.mem_cons_self 3;have p:Fbm (Fdm n) ⟨8,nm,ot,op,m,fr,[d]⟩=some (tx d 3):=kid1 ⟨8,nm,ot,op,m,fr,[d]⟩ d rfl (z d List.mem_cons_self 3 (by omega)) i;simp only [Int.reduceEq,decide_true,decide_false,zI,zH,↓reduceIte];rw [show txs [d] 3=[tx d 3]from rfl,jn_one];rw [p,zA];rw [cat_ok (by simp only [List.length_cons,List.length_nil];omega),zA]
  ·skip
   have C:=H 2 [32,97,110,100,32] (by decide) a.length;dsimp only at C;rw [List.take_length,<-txs_map]at C;have p:Fdt (Fdm n) a [97,110,100] 2=some (jn [32,97,110,100,32] (txs a 2)):=joined_ok a [97,110,100] 2 (by decide) (by dsimp only at G F O;omega) (by show(jn [32,97,110,100,32] (txs a 2)).length<=1000000;omega) (λd i=>z d i 2 (by omega));have E:x=0\/x=1\/x=2\/x=3:=by omega
   simp only [Int.reduceEq,decide_true,decide_false,zI,zH,↓reduceIte];rw [p,zA];rcases E with rfl|rfl|rfl|rfl
   ·rfl
   ·rfl
   ·have A:cat' [40] (jn [32,97,110,100,32] (txs a 2))=some ([40]++(jn [32,97,110,100,32] (txs a 2))):=cat_ok (by simp only [List.length_cons,List.length_nil];omega);have B:cat' ([40]++(jn [32,97,110,100,32] (txs a 2))) [41]=some ([40]++(jn [32,97,110,100,32] (txs a 2))++[41]):=cat_ok (by simp only [List.length_append,List.length_cons,List.length_nil];omega);show(gI (gI (cat' [40] (jn [32,97,110,100,32] (txs a 2))) λb=>gI (cat' b [41]) λf=>some f) λx=>some x)=_;rw [A,zA,B,zA,zA];rfl
   ·have A:cat' [40] (jn [32,97,110,100,32] (txs a 2))=some ([40]++(jn [32,97,110,100,32] (txs a 2))):=cat_ok (by simp only [List.length_cons,List.length_nil];omega);have B:cat' ([40]++(jn [32,97,110,100,32] (txs a 2))) [41]=some ([40]++(jn [32,97,110,100,32] (txs a 2))++[41]):=cat_ok (by simp only [List.length_append,List.length_cons,List.length_nil];omega);show(gI (gI (cat' [40] (jn [32,97,110,100,32] (txs a 2))) λb=>gI (cat' b [41]) λf=>some f) λx=>some x)=_;rw [A,zA,B,zA,zA];rfl
  ·skip
   have C:=H 1 [32,111,114,32] (by decide) a.length;dsimp only at C;rw [List.take_length,<-txs_map]at C;have p:Fdt (Fdm n) a [111,114] 1=some (jn [32,111,114,32] (txs a 1)):=joined_ok a [111,114] 1 (by decide) (by dsimp only at G F O;omega) (by show(jn [32,111,114,32] (txs a 1)).length<=1000000;omega) (λd i=>z d i 1 (by omega));have E:x=0\/x=1\/x=2\/x=3:=by omega
   simp only [Int.reduceEq,decide_true,decide_false,zI,zH,↓reduceIte];rw [p,zA];rcases E with rfl|rfl|rfl|rfl
   ·rfl
   ·have A:cat' [40] (jn [32,111,114,32] (txs a 1))=some ([40]++(jn [32,111,114,32] (txs a 1))):=cat_ok (by simp only [List.length_cons,List.length_nil];omega);have B:cat' ([40]++(jn [32,111,114,32] (txs a 1))) [41]=some ([40]++(jn [32,111,114,32] (txs a 1))++[41]):=cat_ok (by simp only [List.length_append,List.length_cons,List.length_nil];omega);show(gI (gI (cat' [40] (jn [32,111,114,32] (txs a 1))) λb=>gI (cat' b [41]) λf=>some f) λx=>some x)=_;rw [A,zA,B,zA,zA];rfl
   ·have A:cat' [40] (jn [32,111,114,32] (txs a 1))=some ([40]++(jn [32,111,114,32] (txs a 1))):=cat_ok (by simp only [List.length_cons,List.length_nil];omega);have B:cat' ([40]++(jn [32,111,114,32] (txs a 1))) [41]=some ([40]++(jn [32,111,114,32] (txs a 1))++[41]):=cat_ok (by simp only [List.length_append,List.length_cons,List.length_nil];omega);show(gI (gI (cat' [40] (jn [32,111,114,32] (txs a 1))) λb=>gI (cat' b [41]) λf=>some f) λx=>some x)=_;rw [A,zA,B,zA,zA];rfl
   ·have A:cat' [40] (jn [32,111,114,32] (txs a 1))=some ([40]++(jn [32,111,114,32] (txs a 1))):=cat_ok (by simp only [List.length_cons,List.length_nil];omega);have B:cat' ([40]++(jn [32,111,114,32] (txs a 1))) [41]=some ([40]++(jn [32,111,114,32] (txs a 1))++[41]):=cat_ok (by simp only [List.length_append,List.length_cons,List.length_nil];omega);show(gI (gI (cat' [40] (jn [32,111,114,32] (txs a 1))) λb=>gI (cat' b [41]) λf=>some f) λx=>some x)=_;rw [A,zA,B,zA,zA];rfl
  ·skip
   obtain⟨d,rfl⟩:=one_of (gk.o (by simp));have i:=D d List.mem_cons_self 3;have p:Fbm (Fdm n) ⟨11,nm,ot,op,m,fr,[d]⟩=some (tx d 3):=kid1 ⟨11,nm,ot,op,m,fr,[d]⟩ d rfl (z d List.mem_cons_self 3 (by omega)) i;simp only [Int.reduceEq,decide_true,decide_false,zI,zH,↓reduceIte];rw [show txs [d] 3=[tx d 3]from rfl,jn_one];rw [q,zA];rw [cat_ok (by simp only [List.length_cons,List.length_nil];omega),zA];rw [cat_ok (by simp only [List.length_append,List.length_cons,List.length_nil];omega),zA];rw [p,zA];rw [cat_ok (by simp only [List.length_append,List.length_cons,List.length_nil];omega),zA]
  ·skip
   obtain⟨d,rfl⟩:=one_of (gk.o (by simp));have i:=D d List.mem_cons_self 3;have p:Fbm (Fdm n) ⟨12,nm,ot,op,m,fr,[d]⟩=some (tx d 3):=kid1 ⟨12,nm,ot,op,m,fr,[d]⟩ d rfl (z d List.mem_cons_self 3 (by omega)) i;simp only [Int.reduceEq,decide_true,decide_false,zI,zH,↓reduceIte];rw [show txs [d] 3=[tx d 3]from rfl,jn_one];rw [q,zA];rw [cat_ok (by simp only [List.length_cons,List.length_nil];omega),zA];rw [cat_ok (by simp only [List.length_append,List.length_cons,List.length_nil];omega),zA];rw [p,zA];rw [cat_ok (by simp only [List.length_append,List.length_cons,List.length_nil];omega),zA]
  ·skip
   obtain⟨d,rfl⟩:=one_of (gk.o (by simp));have i:=D d List.mem_cons_self 3;have p:Fbm (Fdm n) ⟨13,nm,ot,op,m,fr,[d]⟩=some (tx d 3):=kid1 ⟨13,nm,ot,op,m,fr,[d]⟩ d rfl (z d List.mem_cons_self 3 (by omega)) i;simp only [Int.reduceEq,decide_true,decide_false,zI,zH,↓reduceIte];rw [show txs [d] 3=[tx d 3]from rfl,jn_one];rw [v,zA];rw [cat_ok (by simp only [List.length_cons,List.length_nil];omega),zA];rw [cat_ok (by simp only [List.length_append,List.length_cons,List.length_nil];omega),zA];rw [q,zA];rw [cat_ok (by simp only [List.length_append,List.length_cons,List.length_nil];omega),zA];rw [cat_ok (by simp only [List.length_append,List.length_cons,List.length_nil];omega),zA];rw [p,zA];rw [cat_ok (by simp only [List.length_append,List.length_cons,List.length_nil];omega),zA]
  ·skip
   obtain⟨d,e,rfl⟩:=two_of (gk.t rfl);have i:=D d List.mem_cons_self 3;have he:=D e (List.mem_cons_of_mem _ List.mem_cons_self) 3;have p:Fdm n d 3=some (tx d 3):=z d List.mem_cons_self 3 (by omega);have q2:Fdm n e 3=some (tx e 3):=z e (List.mem_cons_of_mem _ List.mem_cons_self) 3 (by omega);simp only [Int.reduceEq,decide_false,zH,↓reduceIte];rw [show at' [d,e] 0=some d from rfl,zA,p,zA];rw [cat_ok (by simp only [List.length_cons,List.length_nil];omega),zA];rw [cat_ok (by simp only [List.length_append,List.length_cons,List.length_nil];omega),zA];rw [show at' [d,e] 1=some e from rfl,zA,q2,zA];rw [cat_ok (by simp only [List.length_append,List.length_cons,List.length_nil];omega),zA];rw [show txs [d,e] 3=[tx d 3,tx e 3]from rfl];simp only [jn,jnT,List.append_assoc,List.append_nil]
  ·skip
   obtain⟨d,rfl⟩:=one_of (gk.o (by simp));have i:=D d List.mem_cons_self 3;have p:Fbm (Fdm n) ⟨15,nm,ot,op,m,fr,[d]⟩=some (tx d 3):=kid1 ⟨15,nm,ot,op,m,fr,[d]⟩ d rfl (z d List.mem_cons_self 3 (by omega)) i;simp only [Int.reduceEq,decide_true,decide_false,zI,zH,↓reduceIte];rw [show txs [d] 3=[tx d 3]from rfl,jn_one];rw [p,zA];rw [cat_ok (by simp only [List.length_cons,List.length_nil];omega),zA]
def cx (x:Nat):Int:=if x=0 then 0 else if x=1 then 10 else if x=2 then 9 else 8
theorem shownL {f:Cond->Int->Option Str} (c:Cond) (b:Str) (y:Nat) (G:b.length<=6) (H:c.Kids.length<=200) (C: ∀j,(jn b ((c.Kids.take j).map λd=>tx d y)).length<=40000) (D: ∀d∈c.Kids,(tx d y).length<=40000)
  (h: ∀d∈c.Kids,f d c.Kind=some (tx d y)):F_ref6_shown_B_L1 f c b ([],0)=some (jn b (txs c.Kids y)):=by
 unfold F_ref6_shown_B_L1;simp only [zS];obtain⟨r,E,F⟩:=qF (body:=λn (g:Str×Int)=>match g with |⟨g631,g632⟩=>gV (decide (g632<(c.Kids.length:Int))) (gI (gV (decide (0<g632)) (gI (cat' g631 b) λo=>some o) (some g631)) λp=>gI (at' c.Kids g632) λq=>gI (f q c.Kind) λu=>gI (cat' p u) λv=>n (v,IntKind.i64.wrap (g632+1))) (some g631))
  (λ(i:Nat) (s:Str)=>(s,(i:Int))) c.Kids (λi s=>s=jn b ((c.Kids.take i).map λd=>tx d y)) (λr=>r=jn b (txs c.Kids y)) (by omega)
  (λk i s d x hi A=>by
   subst A;have B:=mG x;have l1:=D d B;have l2:=C i;refine⟨jn b ((c.Kids.take (i+1)).map λd=>tx d y),rfl,?_⟩;dsimp only;rw [xJ hi,zI,bD x,take_snoc x,List.map_append]
   by_cases z:i=0
   ·subst z;rw [qD (by decide),zH,zA,zA,h d B,zA,cat_ok (by omega),zA,dM hi (by omega)];show k (jn b []++tx d y,_)=k (jn b [tx d y],_);rw [jn_one];rfl
   ·rw [dT (by omega:(0:Int)<(i:Int)),zI,cat_ok (by omega),zA,zA,zA,h d B,zA,cat_ok (by rw [List.length_append];omega),zA,dM hi (by omega)];have ne:(c.Kids.take i).map (λd=>tx d y)≠[]:=λe=>by
     have:=congrArg List.length e;rw [List.length_map,List.length_take]at this;simp only [List.length_nil]at this;omega
    obtain⟨a,l,e⟩:=List.exists_cons_of_ne_nil ne;rw [e];exact congrArg (λt=>k (t,_)) (jn_snoc b (tx d y) a l).symm)
  (λk s A=>by
   subst A;dsimp only;rw [xI,zH,List.take_length];exact⟨_,rfl,by rw [txs_map]⟩) [] rfl
 rw [show(fG _ (([]:Str),(0:Int)):Option Str)=_ from E,F]
theorem aLm: ∀(n:Nat) (c:Cond) (x:Nat),dN c<=n->Gt c->x<=3->F_ref6_shown_R n c (cx x)=some (tx c x)
 |0,c,_,h,_,_=>by have:=sD c;omega
 |n+1,c,x,h,g,_=>by
  show F_ref6_shown_B (F_ref6_shown_R n) c (cx x)=some (tx c x);have q: ∀d∈c.Kids,dN d<=n/\Gt d:=λd p=>by
   obtain⟨j,F⟩:=List.getElem?_of_mem p;have:=(sZ g.ok F).2.1;exact⟨by omega,g.kid p⟩
  have v: ∀d∈c.Kids,∀y,(tx d y).length<=40000:=λd p y=>by
   have R:=yY n d y (q d p).1 (q d p).2;have h2:=(q d p).2.n;omega
  have O:=g.n;have H:=aAa c;have I:=vY c.Kids;have z: ∀(y:Nat) (A:Str),A.length<=6-> ∀j,(jn A ((c.Kids.take j).map λd=>tx d y)).length<=40000:=λy A S j=>by
   have h0:=cNs_take c.Kids j;have R:=aKu A (λd=>tx d y) S (c.Kids.take j) λd p=>by
    have P:=List.mem_of_mem_take p;exact yY n d y (q d P).1 (q d P).2
   omega
  have u:=g.self;have gk:=g.gk;have b:=itoa_ok u.n;have f:=itoa_ok (n:=c.Frames) ⟨by have:=u.fr;omega,by have:=u.fr;omega⟩;have J:=itoa_len u.n;have K:=itoa_len (n:=c.Frames) ⟨by have:=u.fr;omega,by have:=u.fr;omega⟩;have T:=opS_len c.Op;have nl:=u.nm;have X:=u.ot;have Y:=u.k1;have E:=u.op;have B: ∀d∈c.Kids,∀y,y<=3->F_ref6_shown_R n d (cx y)=some (tx d y):=λd p y hy=>aLm n d y (q d p).1 (q d p).2 hy
  obtain⟨k,nm,ot,op,m,fr,a⟩:=c;have M:k=1\/k=2\/k=3\/k=4\/k=5\/k=6\/k=7\/k=8\/k=9\/k=10\/k=11\/k=12\/k=13\/k=14\/k=15:=by dsimp only at Y;omega
  dsimp only at b f J K T nl X;unfold F_ref6_shown_B;simp only [zS,yU];rw [tx];rcases M with rfl|rfl|rfl|rfl|rfl|rfl|rfl|rfl|rfl|rfl|rfl|rfl|rfl|rfl|rfl
  ·skip
   simp only [Int.reduceEq,decide_true,decide_false,zI,zH,zA,↓reduceIte,b,f]
  ·skip
   simp only [Int.reduceEq,decide_true,decide_false,zI,zH,zA,↓reduceIte,b,f]
  ·skip
   have N:=aMt (n:=op) ⟨by have:=gk.op (by simp);dsimp only at this E;omega,by dsimp only at E;omega⟩;simp only [Int.reduceEq,decide_true,decide_false,zI,zH,zA,↓reduceIte,b,f];unfold Fee;rw [cat_ok (by simp only [List.length_cons,List.length_nil];omega),zA];simp only [zS,zA];rw [wrap_i64 (n:=op-1) (by dsimp only at E;omega) (by dsimp only at E;omega)];rw [N.2,zA]
   iterate 2 rw [cat_ok (by simp only [List.length_append,List.length_cons,List.length_nil];omega),zA]
   rw [cat_ok (by simp only [List.length_append,List.length_cons,List.length_nil];omega),zA]
  ·skip
   have N:=aMt (n:=op) ⟨by have:=gk.op (by simp);dsimp only at this E;omega,by dsimp only at E;omega⟩;simp only [Int.reduceEq,decide_true,decide_false,zI,zH,zA,↓reduceIte,b,f];unfold Fee;rw [cat_ok (by simp only [List.length_cons,List.length_nil];omega),zA];simp only [zS,zA];rw [wrap_i64 (n:=op-1) (by dsimp only at E;omega) (by dsimp only at E;omega)];rw [N.2,zA]
   iterate 2 rw [cat_ok (by simp only [List.length_append,List.length_cons,List.length_nil];omega),zA]
   rw [cat_ok (by simp only [List.length_append,List.length_cons,List.length_nil];omega),zA]
  ·skip
   simp only [Int.reduceEq,decide_true,decide_false,zI,zH,zA,↓reduceIte,b,f]
   iterate 2 rw [cat_ok (by simp only [List.length_append,List.length_cons,List.length_nil];omega),zA]
   iterate 2 rw [cat_ok (by simp only [List.length_append,List.length_cons,List.length_nil];omega),zA]
   rw [cat_ok (by simp only [List.length_append,List.length_cons,List.length_nil];omega),zA]
  ·skip
   simp only [Int.reduceEq,decide_true,decide_false,zI,zH,zA,↓reduceIte,b,f];rw [cat_ok (by simp only [List.length_cons,List.length_nil];omega),zA]
  ·skip
   simp only [Int.reduceEq,decide_true,decide_false,zI,zH,zA,↓reduceIte,b,f];rw [cat_ok (by simp only [List.length_cons,List.length_nil];omega),zA]
  ·skip
   obtain⟨d,rfl⟩:=one_of (gk.o (by simp));have p:=v d List.mem_cons_self 3;have s:F_ref6_shown_R n d 8=some (tx d 3):=B d List.mem_cons_self 3 (by omega);simp only [Int.reduceEq,decide_true,decide_false,zI,zH,zA,↓reduceIte,b,f];rw [show txs [d] 3=[tx d 3]from rfl,jn_one];rw [show at' [d] 0=some d from rfl,zA,s,zA];rw [cat_ok (by simp only [List.length_cons,List.length_nil];omega),zA]
  ·skip
   have F:=z 2 [32,97,110,100,32] (by decide) a.length;dsimp only at F;rw [List.take_length,<-txs_map]at F;have s:F_ref6_shown_B_L1 (F_ref6_shown_R n) ⟨9,nm,ot,op,m,fr,a⟩ [32,97,110,100,32] ([],0)=some (jn [32,97,110,100,32] (txs a 2)):=shownL ⟨9,nm,ot,op,m,fr,a⟩ [32,97,110,100,32] 2 (by decide) (by dsimp only at I H O⊢;omega) (λj=>z 2 [32,97,110,100,32] (by decide) j) (λd p=>v d p 2) (λd p=>B d p 2 (by omega));have G:x=0\/x=1\/x=2\/x=3:=by omega
   simp only [Int.reduceEq,decide_true,decide_false,zI,zH,zA,↓reduceIte];rw [s,zA];rcases G with rfl|rfl|rfl|rfl
   ·rfl
   ·rfl
   ·have C:cat' [40] (jn [32,97,110,100,32] (txs a 2))=some ([40]++(jn [32,97,110,100,32] (txs a 2))):=cat_ok (by simp only [List.length_cons,List.length_nil];omega);have D:cat' ([40]++(jn [32,97,110,100,32] (txs a 2))) [41]=some ([40]++(jn [32,97,110,100,32] (txs a 2))++[41]):=cat_ok (by simp only [List.length_append,List.length_cons,List.length_nil];omega);show(gI (cat' [40] (jn [32,97,110,100,32] (txs a 2))) λi=>gI (cat' i [41]) λl=>some l)=_;rw [C,zA,D,zA];rfl
   ·have C:cat' [40] (jn [32,97,110,100,32] (txs a 2))=some ([40]++(jn [32,97,110,100,32] (txs a 2))):=cat_ok (by simp only [List.length_cons,List.length_nil];omega);have D:cat' ([40]++(jn [32,97,110,100,32] (txs a 2))) [41]=some ([40]++(jn [32,97,110,100,32] (txs a 2))++[41]):=cat_ok (by simp only [List.length_append,List.length_cons,List.length_nil];omega);show(gI (cat' [40] (jn [32,97,110,100,32] (txs a 2))) λi=>gI (cat' i [41]) λl=>some l)=_;rw [C,zA,D,zA];rfl
  ·skip
   have F:=z 1 [32,111,114,32] (by decide) a.length;dsimp only at F;rw [List.take_length,<-txs_map]at F;have s:F_ref6_shown_B_L1 (F_ref6_shown_R n) ⟨10,nm,ot,op,m,fr,a⟩ [32,111,114,32] ([],0)=some (jn [32,111,114,32] (txs a 1)):=shownL ⟨10,nm,ot,op,m,fr,a⟩ [32,111,114,32] 1 (by decide) (by dsimp only at I H O⊢;omega) (λj=>z 1 [32,111,114,32] (by decide) j) (λd p=>v d p 1) (λd p=>B d p 1 (by omega));have G:x=0\/x=1\/x=2\/x=3:=by omega
   simp only [Int.reduceEq,decide_true,decide_false,zI,zH,zA,↓reduceIte];rw [s,zA];rcases G with rfl|rfl|rfl|rfl
   ·rfl
   ·have C:cat' [40] (jn [32,111,114,32] (txs a 1))=some ([40]++(jn [32,111,114,32] (txs a 1))):=cat_ok (by simp only [List.length_cons,List.length_nil];omega);have D:cat' ([40]++(jn [32,111,114,32] (txs a 1))) [41]=some ([40]++(jn [32,111,114,32] (txs a 1))++[41]):=cat_ok (by simp only [List.length_append,List.length_cons,List.length_nil];omega);show(gI (cat' [40] (jn [32,111,114,32] (txs a 1))) λi=>gI (cat' i [41]) λl=>some l)=_;rw [C,zA,D,zA];rfl
   ·have C:cat' [40] (jn [32,111,114,32] (txs a 1))=some ([40]++(jn [32,111,114,32] (txs a 1))):=cat_ok (by simp only [List.length_cons,List.length_nil];omega);have D:cat' ([40]++(jn [32,111,114,32] (txs a 1))) [41]=some ([40]++(jn [32,111,114,32] (txs a 1))++[41]):=cat_ok (by simp only [List.length_append,List.length_cons,List.length_nil];omega);show(gI (cat' [40] (jn [32,111,114,32] (txs a 1))) λi=>gI (cat' i [41]) λl=>some l)=_;rw [C,zA,D,zA];rfl
   ·have C:cat' [40] (jn [32,111,114,32] (txs a 1))=some ([40]++(jn [32,111,114,32] (txs a 1))):=cat_ok (by simp only [List.length_cons,List.length_nil];omega);have D:cat' ([40]++(jn [32,111,114,32] (txs a 1))) [41]=some ([40]++(jn [32,111,114,32] (txs a 1))++[41]):=cat_ok (by simp only [List.length_append,List.length_cons,List.length_nil];omega);show(gI (cat' [40] (jn [32,111,114,32] (txs a 1))) λi=>gI (cat' i [41]) λl=>some l)=_;rw [C,zA,D,zA];rfl
  ·skip
   obtain⟨d,rfl⟩:=one_of (gk.o (by simp));have p:=v d List.mem_cons_self 3;have s:F_ref6_shown_R n d 8=some (tx d 3):=B d List.mem_cons_self 3 (by omega);simp only [Int.reduceEq,decide_true,decide_false,zI,zH,zA,↓reduceIte,b,f];rw [show txs [d] 3=[tx d 3]from rfl,jn_one];rw [cat_ok (by simp only [List.length_cons,List.length_nil];omega),zA];rw [cat_ok (by simp only [List.length_append,List.length_cons,List.length_nil];omega),zA];rw [show at' [d] 0=some d from rfl,zA,s,zA];rw [cat_ok (by simp only [List.length_append,List.length_cons,List.length_nil];omega),zA]
  ·skip
   obtain⟨d,rfl⟩:=one_of (gk.o (by simp));have p:=v d List.mem_cons_self 3;have s:F_ref6_shown_R n d 8=some (tx d 3):=B d List.mem_cons_self 3 (by omega);simp only [Int.reduceEq,decide_true,decide_false,zI,zH,zA,↓reduceIte,b,f];rw [show txs [d] 3=[tx d 3]from rfl,jn_one];rw [cat_ok (by simp only [List.length_cons,List.length_nil];omega),zA];rw [cat_ok (by simp only [List.length_append,List.length_cons,List.length_nil];omega),zA];rw [show at' [d] 0=some d from rfl,zA,s,zA];rw [cat_ok (by simp only [List.length_append,List.length_cons,List.length_nil];omega),zA]
  ·skip
   obtain⟨d,rfl⟩:=one_of (gk.o (by simp));have p:=v d List.mem_cons_self 3;have s:F_ref6_shown_R n d 8=some (tx d 3):=B d List.mem_cons_self 3 (by omega);simp only [Int.reduceEq,decide_true,decide_false,zI,zH,zA,↓reduceIte,b,f];rw [show txs [d] 3=[tx d 3]from rfl,jn_one];rw [cat_ok (by simp only [List.length_cons,List.length_nil];omega),zA];rw [cat_ok (by simp only [List.length_append,List.length_cons,List.length_nil];omega),zA];rw [cat_ok (by simp only [List.length_append,List.length_cons,List.length_nil];omega),zA];rw [cat_ok (by simp only [List.length_append,List.length_cons,List.length_nil];omega),zA];rw [show at' [d] 0=some d from rfl,zA,s,zA];rw [cat_ok (by simp only [List.length_append,List.length_cons,List.length_nil];omega),zA]
  ·skip
   obtain⟨d,e,rfl⟩:=two_of (gk.t rfl);have p:=v d List.mem_cons_self 3;have he:=v e (List.mem_cons_of_mem _ List.mem_cons_self) 3;have s:F_ref6_shown_R n d 8=some (tx d 3):=B d List.mem_cons_self 3 (by omega);have q2:F_ref6_shown_R n e 8=some (tx e 3):=B e (List.mem_cons_of_mem _ List.mem_cons_self) 3 (by omega);simp only [Int.reduceEq,decide_false,zH,zA,↓reduceIte,b,f];rw [show at' [d,e] 0=some d from rfl,zA,s,zA];rw [cat_ok (by simp only [List.length_cons,List.length_nil];omega),zA];rw [cat_ok (by simp only [List.length_append,List.length_cons,List.length_nil];omega),zA];rw [show at' [d,e] 1=some e from rfl,zA,q2,zA];rw [cat_ok (by simp only [List.length_append,List.length_cons,List.length_nil];omega),zA];rw [show txs [d,e] 3=[tx d 3,tx e 3]from rfl];simp only [jn,jnT,List.append_assoc,List.append_nil]
  ·skip
   obtain⟨d,rfl⟩:=one_of (gk.o (by simp));have p:=v d List.mem_cons_self 3;have s:F_ref6_shown_R n d 8=some (tx d 3):=B d List.mem_cons_self 3 (by omega);simp only [Int.reduceEq,decide_true,decide_false,zI,zH,zA,↓reduceIte,b,f];rw [show txs [d] 3=[tx d 3]from rfl,jn_one];rw [show at' [d] 0=some d from rfl,zA,s,zA];rw [cat_ok (by simp only [List.length_cons,List.length_nil];omega),zA]
abbrev AT:=Int×Str×Int
def stp (t:Tk):AT:=(t.kind,t.text,t.n)
theorem tokL_stp (p q:Nat)(l:Str):stp (bV p l).1=stp (bV q l).1/\(bV p l).2=(bV q l).2:=by
 unfold bV;split;exact⟨rfl,rfl⟩;split<;>exact⟨rfl,rfl⟩
theorem lexT_stp: ∀(n:Nat) (p q:Nat) (l:Str),l.length<=n->(pY p l).map stp=(pY q l).map stp:=by
 intro n
 induction n with
 |zero=>
  intro p q l h;have:l=[]:=List.eq_nil_of_length_eq_zero (by omega);subst this;rw [pY,dif_pos rfl,pY,dif_pos rfl]
 |succ n b=>
  intro p q l h
  by_cases a:l=[]
  ·subst a;rw [pY,dif_pos rfl,pY,dif_pos rfl]
  ·have e:=qE (p:=q) a;obtain⟨c,d⟩:=tokL_stp p q l;rw [pY,dif_neg a]
   conv=>rhs;rw [pY,dif_neg a]
   rw [List.map_cons,List.map_cons,c,d]
   congr 1
   exact b _ _ _ (by rw [List.length_drop,List.length_drop];omega)
def lx (l:Str):List AT:=(pY 0 (l.drop (skL l))).map stp
theorem lexA_lx (s:Str):(qQ s 0).map stp=lx s++[(0,[],0)]:=by
 unfold qQ lx;rw [List.map_append,lexT_stp _ _ 0 _ (Nat.le_refl _),List.drop_zero,Nat.zero_add];rfl
theorem lx_nil:lx []=[]:=by unfold lx;rw [List.drop_nil,pY,dif_pos rfl];rfl
theorem lx_sp {c:UInt8}(l:Str)(h:c=32\/c=10):lx (c::l)=lx l:=by
 have:skL (c::l)=1+skL l:=by
  rw [skL];rcases h with rfl|rfl<;>rfl
 unfold lx;rw [this,Nat.add_comm,List.drop_succ_cons]
theorem lx_tok {l:Str}{t:AT}{n:Nat}(b:skL l=0)(a:l≠[])(c:stp (bV 0 l).1=t)(d:(bV 0 l).2=n):lx l=t::lx (l.drop n):=by
 unfold lx;rw [b,List.drop_zero,pY,dif_neg a,List.map_cons,c,d];congr 1;exact lexT_stp _ _ _ _ (Nat.le_refl _)
def sepB (l:Str):Prop:=l=[]\/ ∃c r,l=c::r/\nb c=false
theorem nb_blk {c:UInt8} (h:nb c=true):aGg c=false/\(c==35)=false:=by
 constructor
 ·cases hb:aGg c with
  |false=>rfl
  |true=>
   unfold aGg at hb;simp only [Bool.or_eq_true,beq_iff_eq]at hb;rcases hb with ((rfl|rfl)|rfl)|rfl<;>exact absurd h (by decide)
 ·cases hb:(c==35)with
  |false=>rfl
  |true=>rw [beq_iff_eq.1 hb]at h;exact absurd h (by decide)
theorem rn_app: ∀(w r:Str),w.all nb=true->sepB r->rn (w++r)=w.length
 | [],r,_,a=>by
  rcases a with rfl|⟨c,r,rfl,b⟩
  ·rfl
  ·rw [List.nil_append,wG,b];rfl
 |c::w,r,h,a=>by
  rw [List.all_cons,Bool.and_eq_true]at h;rw [List.cons_append,wG,if_pos h.1,rn_app w r h.2 a];rfl
theorem lx_run {w r:Str}(a:w≠[])(h:w.all nb=true)(f:sepB r):lx (w++r)=((knd w).1,w,(knd w).2)::lx r:=by
 have b:=rn_app w r h f;have o:0<w.length:=List.length_pos_iff.2 a;have d:bV 0 (w++r)=(gW.mk (knd w).1 (0:Nat) w (knd w).2,w.length):=by
  unfold bV;rw [b,if_pos (by omega),List.take_left]
 have i:(w++r).drop w.length=r:=List.drop_left;have j:skL (w++r)=0:=by
  obtain⟨_,_,rfl⟩:=List.exists_cons_of_ne_nil a;rw [List.all_cons,Bool.and_eq_true]at h;obtain⟨k,l⟩:=nb_blk h.1;rw [List.cons_append,skL,k,l];rfl
 rw [lx_tok j (by intro e;rw [List.append_eq_nil_iff]at e;exact a e.1) (t:=((knd w).1,w,(knd w).2)) (n:=w.length) (by rw [d];rfl) (by rw [d]),i]
theorem lx_sign {l:Str}{c:UInt8}{r t:Str}{k n:Int}(f:l=c::r)(i:nb c=false)(j:aGg c=false)(a:(c==35)=false)(o:sgn l=some (t,k,n)):lx l=(k,t,n)::lx (l.drop t.length):=by
 subst f;have b:rn (c::r)=0:=by rw [wG,i];rfl
 have d:bV 0 (c::r)=(gW.mk k (0:Nat) t n,t.length):=by
  unfold bV;rw [b,if_neg (λh=>h rfl),o]
 exact lx_tok (by rw [skL,j,a];rfl) (by intro e;cases e) (by rw [d];rfl) (by rw [d])
theorem aMp (r:Str):lx (40::r)=(5,[40],0)::lx r:=lx_sign rfl rfl rfl rfl rfl
theorem lx_close (r:Str):lx (41::r)=(5,[41],0)::lx r:=lx_sign rfl rfl rfl rfl rfl
theorem lx_op {n:Int}(h:1<=n/\n<=6)(r:Str):lx (opS n++32::r)=(4,opS n,n)::lx r:=by
 have:n=1\/n=2\/n=3\/n=4\/n=5\/n=6:=by omega
 rcases this with rfl|rfl|rfl|rfl|rfl|rfl
 ·exact(lx_sign (l:=60::32::r) rfl rfl rfl rfl rfl).trans (congrArg _ (lx_sp r (Or.inl rfl)))
 ·exact(lx_sign (l:=60::61::32::r) rfl rfl rfl rfl rfl).trans (congrArg _ (lx_sp r (Or.inl rfl)))
 ·exact(lx_sign (l:=61::32::r) rfl rfl rfl rfl rfl).trans (congrArg _ (lx_sp r (Or.inl rfl)))
 ·exact(lx_sign (l:=33::61::32::r) rfl rfl rfl rfl rfl).trans (congrArg _ (lx_sp r (Or.inl rfl)))
 ·exact(lx_sign (l:=62::61::32::r) rfl rfl rfl rfl rfl).trans (congrArg _ (lx_sp r (Or.inl rfl)))
 ·exact(lx_sign (l:=62::32::r) rfl rfl rfl rfl rfl).trans (congrArg _ (lx_sp r (Or.inl rfl)))
theorem lx_word {w:Str}(d:w∈kws)(r:Str)(f:sepB r):lx (w++r)=(1,w,0)::lx r:=by
 have i: ∀w∈kws,w≠[]/\w.all nb=true/\knd w=(1,0):=by
  intro w d;refine⟨?_,?_,aLq (aKe.2 d)⟩
  ·intro e;rw [e]at d;exact absurd d (by decide)
  ·revert w;decide+kernel
 obtain⟨a,b,c⟩:=i w d;rw [lx_run a b f,c]
theorem nm_run {w:Str} (h:nV w=true):w≠[]/\w.all nb=true/\knd w=(2,0):=by
 have j:=h;unfold nV at h;simp only [Bool.and_eq_true,Bool.not_eq_true']at h;obtain⟨⟨⟨-,f⟩,k⟩,n⟩:=h;refine⟨λe=>by rw [e]at f;exact absurd f (by decide),?_,?_⟩
 ·rw [List.all_eq_true];intro c b;have d: ∀(l:Str) (i:Nat),qI aCc l i=false-> ∀c∈l,nb c=true:=by
   intro l
   induction l with
   |nil=>intro i _ c b;cases b
   |cons _ l o=>
    intro i e c b;rw [qI,Bool.or_eq_false_iff]at e;rcases List.mem_cons.1 b with rfl|b
    ·have:=e.1;unfold aCc at this;unfold nb
     cases h:nmB (c.toNat:Int)with
     |true=>rfl
     |false=>rw [h]at this;cases this
    ·exact o _ e.2 c b
  exact d w 0 n c b
 ·exact aMk k j
theorem lx_name {w:Str}(h:nV w=true)(r:Str)(d:sepB r):lx (w++r)=(2,w,0)::lx r:=by
 obtain⟨a,b,c⟩:=nm_run h;rw [lx_run a b d,c]
theorem nDigits_le: ∀(k u:Nat),u<10^(k+1)->Lib.nDigits u<=k+1
 |0,u,h=>by rw [Lib.nDigits_small (by omega)];omega
 |k+1,u,h=>by
  by_cases c:u<10
  ·rw [Lib.nDigits_small c];omega
  ·rw [Lib.nDigits_big c];have:=nDigits_le k (u/10) (by rw [Nat.pow_succ]at h;omega);omega
theorem dig_nb {c:UInt8}(h:kE c=true):nb c=true:=by
 rw [aU]at h;unfold nb nmB;rw [dT (by omega:(48:Int)<=(c.toNat:Int)),dT (by omega:(c.toNat:Int)<=57)];simp
theorem kws_head: ∀w∈kws,kE (w.head?.getD 0)=false/\w.head?.getD 0≠45:=by decide+kernel
theorem aNc {w:Str}{n:Int}{c:UInt8}{v:Str} (b:w=c::v) (a:kE c=true\/c=45) (h:qH w=some n):knd w=(3,n):=by
 refine aLu ?_ ?_ h
 ·cases e:isW w with
  |false=>rfl
  |true=>
   have:=kws_head w (aKe.1 e);subst b;rcases a with a|a
   ·exact absurd (a.symm.trans this.1) (by decide)
   ·exact absurd a this.2
 ·have f:vV w=false:=by
   subst b;unfold vV;dsimp only;rcases a with a|rfl
   ·rw [aU]at a;rw [qD (by omega: ¬(97:Int)<=(c.toNat:Int))];rfl
   ·rfl
  unfold nV;rw [f];simp
theorem itoa_run {n:Int} (h: -1125899906842624<=n/\n<=1125899906842624):Lib.itoa n≠[]/\(Lib.itoa n).all nb=true/\knd (Lib.itoa n)=(3,n):=by
 have j:(10:Nat)^(15+1)=10000000000000000:=by decide
 have k: ∀m:Nat,m<=1125899906842624->(Lib.decDigits m).length<=16:=λm _=>by
  rw [Lib.decDigits_length];exact nDigits_le 15 m (by rw [j];omega)
 have b: ∀d:Str,d.all kE=true->d.all nb=true:=λd l=>by
  rw [List.all_eq_true]at l⊢;exact λc o=>dig_nb (l c o)
 by_cases z:n<0
 ·obtain⟨m,rfl⟩: ∃m:Nat,n= -(m:Int):=⟨n.natAbs,by omega⟩;obtain⟨a,f⟩:=aEb (m+1) m (Nat.lt_succ_self _);rw [Lib.itoa_neg m (by omega)];have hh:(Lib.decDigits m).head? ≠some 48:=λe=>by
   have l1:=a.2.2 e;obtain⟨c,v,q⟩:=List.exists_cons_of_ne_nil a.1;rw [q]at l1 e f;simp only [List.length_cons]at l1;have:v=[]:=List.eq_nil_of_length_eq_zero (by omega);subst this;have e:c=48:=oI e;subst e;have:(0:Nat)=m:=f;omega
  have i:=numR_neg a hh (k m (by omega));rw [f]at i;refine⟨(λe=>by cases e),?_,aNc rfl (Or.inr rfl) i⟩;rw [List.all_cons,b _ a.2.1];rfl
 ·obtain⟨m,rfl⟩: ∃m:Nat,n=(m:Int):=⟨n.toNat,by omega⟩;obtain⟨a,f⟩:=aEb (m+1) m (Nat.lt_succ_self _);rw [Lib.itoa_nonneg m];have i:=numR_pos a (k m (by omega));rw [f]at i;obtain⟨c,v,q⟩:=List.exists_cons_of_ne_nil a.1;refine⟨a.1,b _ a.2.1,aNc q (Or.inl ?_) i⟩;have:=a.2.1;rw [q,List.all_cons,Bool.and_eq_true]at this;exact this.1
theorem lx_num {n:Int}(h: -1125899906842624<=n/\n<=1125899906842624)(r:Str)(d:sepB r):lx (Lib.itoa n++r)=(3,Lib.itoa n,n)::lx r:=by
 obtain⟨a,b,c⟩:=itoa_run h;rw [lx_run a b d,c]
def jkT (a:AT):List (List AT)->List AT
 | []=>[]
 |b::l=>a::(b++jkT a l)
def jk (b:AT):List (List AT)->List AT
 | []=>[]
 |a::l=>a++jkT b l
mutual
def tkc:Cond->Nat->List AT
 |⟨k,c,e,d,n,b,a⟩,x=>
  if k=9 then if x=2\/x=3 then(5,[40],0)::(jk ((1:Int),([97,110,100]:Str),(0:Int)) (tkcs a 2)++[(5,[41],0)])else jk ((1:Int),([97,110,100]:Str),(0:Int)) (tkcs a 2)
  else if k=10 then if x≠0 then(5,[40],0)::(jk ((1:Int),([111,114]:Str),(0:Int)) (tkcs a 1)++[(5,[41],0)])else jk ((1:Int),([111,114]:Str),(0:Int)) (tkcs a 1)
  else if k=1 then [((1:Int),([116,114,117,101]:Str),(0:Int))]
  else if k=2 then [((1:Int),([102,97,108,115,101]:Str),(0:Int))]
  else if k=3 then [(2,c,0),(4,opS d,d),(3,Lib.itoa n,n)]
  else if k=4 then [(2,c,0),(4,opS d,d),(2,e,0)]
  else if k=5 then [((1:Int),([115,116,101,97,100,121]:Str),(0:Int)),(2,c,0),(3,Lib.itoa n,n),(3,Lib.itoa b,b)]
  else if k=6 then [((1:Int),([112,104,97,115,101]:Str),(0:Int)),(2,c,0)]
  else if k=7 then [((1:Int),([114,117,108,101]:Str),(0:Int)),(2,c,0)]
  else if k=8 then((1:Int),([110,111,116]:Str),(0:Int))::(tkcs a 3).flatten
  else if k=11 then((1:Int),([102,111,114]:Str),(0:Int))::(3,Lib.itoa b,b)::(tkcs a 3).flatten
  else if k=12 then((1:Int),([119,105,116,104,105,110]:Str),(0:Int))::(3,Lib.itoa b,b)::(tkcs a 3).flatten
  else if k=13 then((1:Int),([99,111,117,110,116]:Str),(0:Int))::(3,Lib.itoa n,n)::((1:Int),([111,102]:Str),(0:Int))::(3,Lib.itoa b,b)::(tkcs a 3).flatten
  else if k=15 then((1:Int),([114,105,115,101,115]:Str),(0:Int))::(tkcs a 3).flatten
  else((1:Int),([115,105,110,99,101]:Str),(0:Int))::(tkcs a 3).flatten
def tkcs:List Cond->Nat->List (List AT)
 | [],_=>[]
 |c::l,x=>tkc c x::tkcs l x
end
theorem tkcs_map (x:Nat): ∀l:List Cond,tkcs l x=l.map λc=>tkc c x
 | []=>rfl
 |c::l=>by rw [tkcs,tkcs_map x l];rfl
theorem sep_sp (r:Str):sepB (32::r):=Or.inr ⟨32,r,rfl,rfl⟩
theorem sep_cl (r:Str):sepB (41::r):=Or.inr ⟨41,r,rfl,rfl⟩
theorem lx_jnT {w:Str}(f:w∈kws)(y:Nat): ∀(a:List Cond) (r:Str),sepB r->(∀d∈a,∀r,sepB r->lx (tx d y++r)=tkc d y++lx r)->sepB (jnT (32::(w++[32])) (txs a y)++r)/\lx (jnT (32::(w++[32])) (txs a y)++r)=jkT (1,w,0) (tkcs a y)++lx r
 | [],r,b,_=>⟨b,rfl⟩
 |c::l,r,b,h=>by
  obtain⟨i,j⟩:=lx_jnT f y l r b λd k=>h d (List.mem_cons_of_mem _ k)
  have e:jnT (32::(w++[32])) (txs (c::l) y)++r=32::(w++(32::(tx c y++(jnT (32::(w++[32])) (txs l y)++r)))):=by
   rw [txs,jnT];simp [List.append_assoc]
  refine⟨by rw [e];exact sep_sp _,?_⟩;rw [e,lx_sp _ (Or.inl rfl),lx_word f _ (sep_sp _),lx_sp _ (Or.inl rfl),h c List.mem_cons_self _ i,j,tkcs,jkT];simp [List.append_assoc]
theorem lx_jn {w:Str}(b:w∈kws)(y:Nat)(a:List Cond)(r:Str)(e:sepB r)(h: ∀d∈a,∀r,sepB r->lx (tx d y++r)=tkc d y++lx r):lx (jn (32::(w++[32])) (txs a y)++r)=jk (1,w,0) (tkcs a y)++lx r:=by
 cases a with
 |nil=>rfl
 |cons c l=>
  obtain⟨f,i⟩:=lx_jnT b y l r e λd j=>h d (List.mem_cons_of_mem _ j)
  rw [txs,jn,List.append_assoc,h c List.mem_cons_self _ f,i,tkcs,jk,List.append_assoc]
theorem lx_tx: ∀(n:Nat) (c:Cond) (x:Nat) (r:Str),dN c<=n->Gt c->sepB r->lx (tx c x++r)=tkc c x++lx r
 |0,c,_,_,h,_,_=>by have:=sD c;omega
 |n+1,c,x,r,h,g,a=>by
  have i: ∀d∈c.Kids,∀y,∀r,sepB r->lx (tx d y++r)=tkc d y++lx r:=λd b y r a=>by
   obtain⟨_,A⟩:=List.getElem?_of_mem b;have:=(sZ g.ok A).2.1;exact lx_tx n d y r (by omega) (g.kid b) a
  have l:=g.self;have gk:=g.gk;have gz:=g.gz;have p:=λr a=>lx_num l.n r a
  have nf:=λr a=>lx_num (n:=c.Frames) ⟨by have:=l.fr;omega,by have:=l.fr;omega⟩ r a
  have B:=l.k1;have q:=l.op;obtain⟨k,s,_,op,m,fr,v⟩:=c;have u:k=1\/k=2\/k=3\/k=4\/k=5\/k=6\/k=7\/k=8\/k=9\/k=10\/k=11\/k=12\/k=13\/k=14\/k=15:=by dsimp only at B;omega
  dsimp only at p nf i;rw [tx,tkc];rcases u with rfl|rfl|rfl|rfl|rfl|rfl|rfl|rfl|rfl|rfl|rfl|rfl|rfl|rfl|rfl
  ·simp only [Int.reduceEq,↓reduceIte];exact lx_word (w:=[116,114,117,101]) (by decide) r a
  ·simp only [Int.reduceEq,↓reduceIte];exact lx_word (w:=[102,97,108,115,101]) (by decide) r a
  ·simp only [Int.reduceEq,↓reduceIte];simp only [List.append_assoc,List.cons_append,List.nil_append];rw [lx_name (gz.a1 (by simp)) _ (sep_sp _),lx_sp _ (Or.inl rfl),lx_op ⟨by have:=gk.op (by simp);dsimp only at this q;omega,by dsimp only at q;omega⟩,p r a]
  ·simp only [Int.reduceEq,↓reduceIte];simp only [List.append_assoc,List.cons_append,List.nil_append];rw [lx_name (gz.a1 (by simp)) _ (sep_sp _),lx_sp _ (Or.inl rfl),lx_op ⟨by have:=gk.op (by simp);dsimp only at this q;omega,by dsimp only at q;omega⟩,lx_name (gz.b1 rfl) _ a]
  ·simp only [Int.reduceEq,↓reduceIte];simp only [List.append_assoc,List.cons_append,List.nil_append];refine(lx_word (w:=[115,116,101,97,100,121]) (by decide) (32::(s++(32::(Lib.itoa m++(32::(Lib.itoa fr++r)))))) (sep_sp _)).trans ?_;rw [lx_sp _ (Or.inl rfl),lx_name (gz.a1 (by simp)) _ (sep_sp _),lx_sp _ (Or.inl rfl),p _ (sep_sp _),lx_sp _ (Or.inl rfl),nf r a]
  ·simp only [Int.reduceEq,↓reduceIte];simp only [List.cons_append,List.nil_append];refine(lx_word (w:=[112,104,97,115,101]) (by decide) (32::(s++r)) (sep_sp _)).trans ?_;rw [lx_sp _ (Or.inl rfl),lx_name (gz.a1 (by simp)) _ a]
  ·simp only [Int.reduceEq,↓reduceIte];simp only [List.cons_append,List.nil_append];refine(lx_word (w:=[114,117,108,101]) (by decide) (32::(s++r)) (sep_sp _)).trans ?_;rw [lx_sp _ (Or.inl rfl),lx_name (gz.a1 (by simp)) _ a]
  ·simp only [Int.reduceEq,↓reduceIte];obtain⟨d,rfl⟩:=one_of (gk.o (by simp));have b:=i d List.mem_cons_self 3 r a;rw [show txs [d] 3=[tx d 3]from rfl,jn_one,show(tkcs [d] 3).flatten=tkc d 3 from by rw [tkcs,tkcs,List.flatten_cons,List.flatten_nil,List.append_nil]];simp only [List.cons_append,List.nil_append];refine(lx_word (w:=[110,111,116]) (by decide) (32::(tx d 3++r)) (sep_sp _)).trans ?_;rw [lx_sp _ (Or.inl rfl),b]
  ·simp only [↓reduceIte];have f:=λr a=>lx_jn (w:=[97,110,100]) (by decide) 2 v r a (λd b r a=>i d b 2 r a)
   by_cases z:x=2\/x=3
   ·rw [if_pos z,if_pos z];simp only [List.append_assoc,List.cons_append,List.nil_append];rw [aMp];refine congrArg _ ((f (41::r) (sep_cl r)).trans ?_);rw [lx_close]
   ·rw [if_neg z,if_neg z];exact f r a
  ·simp only [Int.reduceEq,↓reduceIte];have f:=λr a=>lx_jn (w:=[111,114]) (by decide) 1 v r a (λd b r a=>i d b 1 r a)
   by_cases z:x≠0
   ·rw [if_pos z,if_pos z];simp only [List.append_assoc,List.cons_append,List.nil_append];rw [aMp];refine congrArg _ ((f (41::r) (sep_cl r)).trans ?_);rw [lx_close]
   ·rw [if_neg z,if_neg z];exact f r a
  ·simp only [Int.reduceEq,↓reduceIte];obtain⟨d,rfl⟩:=one_of (gk.o (by simp));have b:=i d List.mem_cons_self 3 r a;rw [show txs [d] 3=[tx d 3]from rfl,jn_one,show(tkcs [d] 3).flatten=tkc d 3 from by rw [tkcs,tkcs,List.flatten_cons,List.flatten_nil,List.append_nil]];simp only [List.append_assoc,List.cons_append,List.nil_append];refine(lx_word (w:=[102,111,114]) (by decide) (32::(Lib.itoa fr++(32::(tx d 3++r)))) (sep_sp _)).trans ?_;rw [lx_sp _ (Or.inl rfl),nf _ (sep_sp _),lx_sp _ (Or.inl rfl),b]
  ·simp only [Int.reduceEq,↓reduceIte];obtain⟨d,rfl⟩:=one_of (gk.o (by simp));have b:=i d List.mem_cons_self 3 r a;rw [show txs [d] 3=[tx d 3]from rfl,jn_one,show(tkcs [d] 3).flatten=tkc d 3 from by rw [tkcs,tkcs,List.flatten_cons,List.flatten_nil,List.append_nil]];simp only [List.append_assoc,List.cons_append,List.nil_append];refine(lx_word (w:=[119,105,116,104,105,110]) (by decide) (32::(Lib.itoa fr++(32::(tx d 3++r)))) (sep_sp _)).trans ?_;rw [lx_sp _ (Or.inl rfl),nf _ (sep_sp _),lx_sp _ (Or.inl rfl),b]
  ·simp only [Int.reduceEq,↓reduceIte];obtain⟨d,rfl⟩:=one_of (gk.o (by simp));have b:=i d List.mem_cons_self 3 r a;rw [show txs [d] 3=[tx d 3]from rfl,jn_one,show(tkcs [d] 3).flatten=tkc d 3 from by rw [tkcs,tkcs,List.flatten_cons,List.flatten_nil,List.append_nil]];simp only [List.append_assoc,List.cons_append,List.nil_append];refine(lx_word (w:=[99,111,117,110,116]) (by decide) (32::(Lib.itoa m++(32::111::102::32::(Lib.itoa fr++(32::(tx d 3++r)))))) (sep_sp _)).trans ?_;rw [lx_sp _ (Or.inl rfl),p _ (sep_sp _),lx_sp _ (Or.inl rfl),show lx (111::102::32::(Lib.itoa fr++(32::(tx d 3++r))))=_ from lx_word (w:=[111,102]) (by decide) (32::(Lib.itoa fr++(32::(tx d 3++r)))) (sep_sp _),lx_sp _ (Or.inl rfl),nf _ (sep_sp _),lx_sp _ (Or.inl rfl),b]
  ·simp only [Int.reduceEq,↓reduceIte];obtain⟨d,e,rfl⟩:=two_of (gk.t rfl);rw [show txs [d,e] 3=[tx d 3,tx e 3]from rfl,show(tkcs [d,e] 3).flatten=tkc d 3++tkc e 3 from by rw [tkcs,tkcs,tkcs,List.flatten_cons,List.flatten_cons,List.flatten_nil,List.append_nil]];simp only [jn,jnT,List.append_assoc,List.cons_append,List.nil_append,List.append_nil];refine(lx_word (w:=[115,105,110,99,101]) (by decide) (32::(tx d 3++(32::(tx e 3++r)))) (sep_sp _)).trans ?_;rw [lx_sp _ (Or.inl rfl),i d List.mem_cons_self 3 _ (sep_sp _),lx_sp _ (Or.inl rfl),i e (List.mem_cons_of_mem _ List.mem_cons_self) 3 r a]
  ·simp only [Int.reduceEq,↓reduceIte];obtain⟨d,rfl⟩:=one_of (gk.o (by simp));have b:=i d List.mem_cons_self 3 r a;rw [show txs [d] 3=[tx d 3]from rfl,jn_one,show(tkcs [d] 3).flatten=tkc d 3 from by rw [tkcs,tkcs,List.flatten_cons,List.flatten_nil,List.append_nil]];simp only [List.cons_append,List.nil_append];refine(lx_word (w:=[114,105,115,101,115]) (by decide) (32::(tx d 3++r)) (sep_sp _)).trans ?_;rw [lx_sp _ (Or.inl rfl),b]
def At (L:List Tk)(y:Rf)(a:List AT):Prop:= ∃i:Nat,y.l=L/\y.at_=(i:Int)/\y.e=0/\(L.drop i).map stp=a
def NW (w:Str)(r:List AT):Prop:= ∀t l,r=t::l->(t.1=1\/t.1=5)->t.2.1≠w
section
variable {L:List Tk}{y:Rf}{t:AT}{r:List AT}
theorem at_now (h:At L y (t::r)): ∃k,Fae y=some k/\stp k=t:=by
 obtain⟨i,a,b,_,d⟩:=h
 cases e:L.drop i with
 |nil=>rw [e]at d;cases d
 |cons k _=>
  rw [e,List.map_cons]at d
  injection d with d1 d2
  refine⟨k,?_,d1⟩;have:=congrArg List.head? e;rw [List.head?_drop]at this;unfold Fae;rw [a,b,aDu,this];rfl
theorem at_next (hL:L.length<=2000000)(h:At L y (t::r))(f:r≠[]): ∃e,Fad y=some e/\At L e r:=by
 obtain⟨i,a,b,c,d⟩:=h;have j:=congrArg List.length d;rw [List.length_map,List.length_drop,List.length_cons]at j;have k:=List.length_pos_iff.2 f;unfold Fad;simp only [zS,a,b];rw [wrap_i64 (n:=(i:Int)+1) (by omega) (by omega),dT (by omega:(i:Int)+1<(L.length:Int)),zI];refine⟨_,rfl,i+1,rfl,rfl,c,?_⟩;have:=congrArg List.tail d;rw [<-List.map_tail,List.tail_drop]at this;exact this
theorem at_take (hL:L.length<=2000000)(h:At L y (t::r))(f:r≠[]){K:Int}(i:t.1=K): ∃k e,Faa y K=some (k,e)/\stp k=t/\At L e r:=by
 obtain⟨k,a,b⟩:=at_now h;obtain⟨e,c,d⟩:=at_next hL h f;refine⟨k,e,?_,b,d⟩;unfold Faa;simp only [zS,yX];have:k.kind=K:=by rw [<-i,<-b];rfl
 rw [a,zA,qD (λz=>z this),zH,zA];dsimp only;rw [yX,c,zA]
theorem at_is (h:At L y (t::r))(w:Str):Fac y w=some ((decide (t.1=1)||decide (t.1=5))&&decide (t.2.1=w)):=by
 obtain⟨_,a,rfl⟩:=at_now h;exact r_is a w
theorem at_nw (h:At L y r)(b:r≠[]){w:Str}(c:NW w r):Fac y w=some false:=by
 obtain⟨t,l,rfl⟩:=List.exists_cons_of_ne_nil b;rw [at_is h];have:=c t l rfl;by_cases a:t.1=1\/t.1=5;rw [qD (this a),Bool.and_false];rw [qD (λz=>a (Or.inl z)),qD (λz=>a (Or.inr z))];rfl
theorem at_want (hL:L.length<=2000000)(h:At L y (t::r))(b:r≠[])(e:t.1=1\/t.1=5): ∃a,Faj y t.2.1=some a/\At L a r:=by
 obtain⟨a,c,d⟩:=at_next hL h b;refine⟨a,?_,d⟩;have i:=at_is h t.2.1;have:((decide (t.1=1)||decide (t.1=5))&&decide (t.2.1=t.2.1))=true:=by
  rcases e with z|z<;>simp [z]
 rw [this]at i;unfold Faj;simp only [yX];rw [i,zA];simp only [zS];rw [Bool.not_true,zH,zA];dsimp only;rw [yX,c,zA]
theorem at_e (h:At L y r):y.e=0:=by obtain⟨_,_,_,c,_⟩:=h;exact c
end
def Pq (L:List Tk)(h:RF)(m:Int)(d:Cond)(b:List AT)(Q:List AT->Prop):Prop:= ∀y r,r≠[]->Q r->At L y (b++r)-> ∃a,h y m=some (d,a)/\At L a r
section
variable {L:List Tk} (hL:L.length<=2000000) {h:RF}{m:Int}{w:Str}{Q:List AT->Prop}
include hL
theorem aMf (f:Cond->List AT)(x: ∀r,Q ((1,w,0)::r)): ∀(l acc:List Cond) (y:Rf) (r:List AT) (n:Nat),r≠[]->Q r->NW w r->(∀d∈l,Pq L h m d (f d) Q)->acc.length+l.length<=1000->l.length<n->At L y (jkT (1,w,0) (l.map f)++r)->
  ∃b,eU (lbR h w m) n (y.l,y.at_,y.pos,y.e,acc)=some (b.l,b.at_,b.pos,b.e,acc++l)/\At L b r
 | [],acc,y,r,n,k,q,p,_,_,o,a=>by
  obtain⟨n,rfl⟩: ∃j,n=j+1:=⟨n-1,by simp at o;omega⟩;refine⟨y,?_,a⟩;show lbR h w m (eU (lbR h w m) n) (y.l,y.at_,y.pos,y.e,acc)=_;have i:Fac y w=some false:=at_nw a k p;unfold lbR;dsimp only;rw [dT (at_e a),zI,yX,i,zA,zA,zH,List.append_nil]
 |c::l,acc,y,r,n,k,q,p,z,A,o,a=>by
  obtain⟨n,rfl⟩: ∃j,n=j+1:=⟨n-1,by simp at o;omega⟩;rw [List.map_cons,jkT,List.cons_append,List.append_assoc]at a;have i:=at_is a w;have e:((decide (((1:Int),w,(0:Int)).1=1)||decide (((1:Int),w,(0:Int)).1=5))&&decide (((1:Int),w,(0:Int)).2.1=w))=true:=by simp
  rw [e]at i;have ne: ∀(l:List Cond),jkT (1,w,0) (l.map f)++r≠[]:=λl e=>k (List.append_eq_nil_iff.1 e).2
  have s:f c++(jkT (1,w,0) (l.map f)++r)≠[]:=λe=>ne l (List.append_eq_nil_iff.1 e).2
  obtain⟨B,C,D⟩:=at_next hL a s;have E:Q (jkT (1,w,0) (l.map f)++r):=by
   cases l with
   |nil=>exact q
   |cons d l=>rw [List.map_cons,jkT,List.cons_append];exact x _
  obtain⟨F,G,a2⟩:=z c List.mem_cons_self B _ (ne l) E D;rw [List.length_cons]at A o;obtain⟨H,u,a3⟩:=aMf f x l (acc++[c]) F r n k q p (λd v=>z d (List.mem_cons_of_mem _ v)) (by rw [List.length_append,List.length_singleton];omega) (by omega) a2;refine⟨H,?_,a3⟩;show lbR h w m (eU (lbR h w m) n) (y.l,y.at_,y.pos,y.e,acc)=_
  revert u
  generalize eU (lbR h w m) n=K;intro u;unfold lbR;dsimp only;rw [dT (at_e a),zI,yX,i,zA,zA,zI,C,zA,yX,G,zA,apc (by decide) (by omega),zA,u,List.append_assoc];rfl
omit hL in
theorem ls_one {c:Cond}{d:List AT}{p2:Int}(i:Pq L h m c d Q){y:Rf}{r:List AT}(e:r≠[])(q:Q r)(j:NW w r)(a:At L y (d++r)): ∃f,lsR h w p2 y m=some (c,f)/\At L f r:=by
 obtain⟨k,l,b⟩:=i y r e q a;refine⟨k,?_,b⟩;unfold lsR;rw [yX,l,zA];dsimp only;rw [qD (λz=>z (at_e b)),zH,yX,at_nw b e j,zA,zA,Bool.not_false,zI]
theorem aLp (f:Cond->List AT)(p: ∀r,Q ((1,w,0)::r)){c c2:Cond}{l:List Cond}{p2:Int}(s: ∀d∈c::c2::l,Pq L h m d (f d) Q)(F:l.length<=500){y:Rf}{r:List AT}(x:r≠[])(q:Q r)(A:NW w r)
  (a:At L y (jk (1,w,0) ((c::c2::l).map f)++r)): ∃u,lsR h w p2 y m=some (Cond.mk p2 [] [] 0 0 0 (c::c2::l),u)/\At L u r:=by
 obtain⟨j,B,_⟩:=FU_j;rw [List.map_cons,jk,List.append_assoc]at a;have k:jkT (1,w,0) ((c2::l).map f)++r=(1,w,0)::(f c2++jkT (1,w,0) (l.map f)++r):=by rw [List.map_cons,jkT];rfl
 have ne:jkT (1,w,0) ((c2::l).map f)++r≠[]:=by rw [k];intro e;cases e
 obtain⟨v,C,n⟩:=s c List.mem_cons_self y _ ne (by rw [k];exact p _) a;obtain⟨D,E,a2⟩:=aMf hL f p (c2::l) [c] v r (j+1) x q A (λd o=>s d (List.mem_cons_of_mem _ o)) (by simp only [List.length_cons,List.length_nil];omega) (by rw [List.length_cons];omega) n;refine⟨D,?_,a2⟩;have i:Fac v w=some true:=by
  have b:=n;rw [k]at b;rw [at_is b w];simp
 unfold lsR fG;rw [yX,C,zA];dsimp only;rw [qD (λz=>z (at_e n)),zH,yX,i,zA,zA,Bool.not_true,zH,B,E,zA];rfl
end
def TT:List AT->Prop:=λ_=>True
theorem stp_k {k:Tk}{a:Int}{u:Str}{n:Int}(h:stp k=(a,u,n)):k.kind=a/\k.text=u/\k.n=n:=by
 unfold stp at h
 injection h with h1 h2
 injection h2 with h2 h3
 exact⟨h1,h2,h3⟩
theorem beg_name {k:Tk}{u:Str}{n:Int}(h:stp k=(2,u,n))(a:nV u=true):beg k=true:=by
 obtain⟨c,d,-⟩:=stp_k h;have e:([[116,114,117,101],[102,97,108,115,101],[115,116,101,97,100,121],[112,104,97,115,101],[114,117,108,101],[110,111,116],[102,111,114],[119,105,116,104,105,110],[99,111,117,110,116],[114,105,115,101,115],[115,105,110,99,101]]:List Str) ⊆ kws:=by decide
 have b:isW u=false:=by
  have:=a;unfold nV at this;simp only [Bool.and_eq_true,Bool.not_eq_true']at this;exact this.1.2
 unfold beg;rw [c,d,if_neg (λz=>by rw [aKe.2 (e z)]at b;cases b),if_neg (λz=>by rw [z]at a;exact absurd a (by decide))];rfl
section
variable {L:List Tk} (hL:L.length<=2000000) {rfH rfI:RF}
include hL
theorem at_compare {y:Rf}{d:Str}{b:Int}{z:AT}{r:List AT} (l:r≠[]) (A:z.1=2\/z.1=3) (a:At L y ((2,d,0)::(4,opS b,b)::z::r)):
    ∃o,Fbv y=some (if z.1=2 then Cond.mk 4 d z.2.1 b 0 0 []else Cond.mk 3 d [] b z.2.2 0 [],o)/\At L o r:=by
 obtain⟨_,_,p,s1,q⟩:=at_take hL a (by intro e;cases e) (K:=2) rfl;obtain⟨_,_,s,s2,a2⟩:=at_take hL q (by intro e;cases e) (K:=4) rfl;obtain⟨u,v,x⟩:=at_now a2;obtain⟨-,t1,-⟩:=stp_k s1;obtain⟨-,-,t2⟩:=stp_k s2;unfold Fbv;simp only [zS,yX];rw [p,zA];dsimp only;rw [s,zA];dsimp only;rw [v,zA,show u.kind=z.1 from congrArg (·.1) x,t1,t2];by_cases c:z.1=2;obtain⟨f,i,j,k,a4⟩:=at_take hL a2 l (K:=2) c;rw [dT c,zI,j,zA,if_pos c];exact⟨i,by rw [<-show f.text=z.2.1 from congrArg (·.2.1) k],a4⟩;obtain⟨f,i,j,k,a4⟩:=at_take hL a2 l (K:=3) (by omega);rw [qD c,zH,j,zA,if_neg c];exact⟨i,by rw [<-show f.n=z.2.2 from congrArg (·.2.2) k],a4⟩
theorem aKs {c:Cond}(b:c.Kind=9\/c.Kind=10){j:Nat}(H:j<60)(q: ∀y r,r≠[]->NW [97,110,100] r->NW [111,114] r->At L y (tkc c 0++r)-> ∃d,rfH y (j:Int)=some (c,d)/\At L d r):
  Pq L (Fbb rfH rfI) ((j+1:Nat):Int) c (tkc c 3) TT:=by
 intro y r s _ a;have u:tkc c 3=(5,[40],0)::(tkc c 0++[(5,[41],0)]):=by
  obtain⟨_,_,_,_,m,_,_⟩:=c;dsimp only at b;rw [tkc,tkc];rcases b with rfl|rfl<;>simp
 rw [u,List.cons_append,List.append_assoc]at a;obtain⟨v,x,s1⟩:=at_now a;obtain⟨f,i,-⟩:=stp_k s1;have ne:tkc c 0++([(5,[41],0)]++r)≠[]:=λe=>by have:=(List.append_eq_nil_iff.1 e).2;cases this
 obtain⟨A,B,a2⟩:=at_next hL a ne;have o: ∀w:Str,w≠[41]->NW w ([(5,[41],0)]++r):=λw C t _ e=>by
  injection e with e1 e2
  subst e1;exact λ_ z=>C z.symm
 obtain⟨D,E,a3⟩:=q A ([(5,[41],0)]++r) (by intro e;cases e) (o _ (by decide)) (o _ (by decide)) a2;obtain⟨p,F,a4⟩:=at_want hL (t:=(5,[41],0)) a3 s (Or.inr rfl);have G:beg v=true:=by unfold beg;rw [f,i];rfl
 refine⟨p,?_,a4⟩;unfold Fbb;simp only [zS,yX];rw [x,zA,xO,zA,G,Bool.not_true,zH,qD (by omega: ¬((j+1:Nat):Int)=0),zH,f,i,show decide ((5:Int)=2)=false from rfl,zH,show decide ((5:Int)=5)=true from rfl,zI,show decide (([40]:Str)=[40])=true from rfl,zA,zI,B,zA,
  wrap_i64 (n:=((j+1:Nat):Int)-1) (by omega) (by omega),show((j+1:Nat):Int)-1=(j:Int)by omega,E,zA]
 dsimp only;rw [show Faj D [41]=some p from F,zA]
theorem part_node {c:Cond} (g:Gt c) (P:c.Kind≠9) (I:c.Kind≠10) {j:Nat} (hm:j<60) (D: ∀d∈c.Kids,Pq L rfI (j:Int) d (tkc d 3) TT):
  Pq L (Fbb rfH rfI) ((j+1:Nat):Int) c (tkc c 3) TT:=by
 intro y r v _ a;have R:=g.self;have gk:=g.gk;have gz:=g.gz;have S:=R.k1;obtain⟨k,E,x,A,m,C,G⟩:=c;dsimp only at P I S D;have J:k=1\/k=2\/k=3\/k=4\/k=5\/k=6\/k=7\/k=8\/k=11\/k=12\/k=13\/k=14\/k=15:=by omega
 rw [tkc]at a;unfold Fbb;simp only [zS,yX];rw [qD (by omega: ¬((j+1:Nat):Int)=0),wrap_i64 (n:=((j+1:Nat):Int)-1) (by omega) (by omega),show((j+1:Nat):Int)-1=(j:Int)by omega];have B: ∀(t:AT) (l:List AT),t::l≠[]:=λt l e=>by cases e
 have H: ∀l:List AT,l++r≠[]:=λl e=>v (List.append_eq_nil_iff.1 e).2
 rcases J with rfl|rfl|rfl|rfl|rfl|rfl|rfl|rfl|rfl|rfl|rfl|rfl|rfl
 ·simp only [Int.reduceEq,↓reduceIte,List.cons_append,List.nil_append]at a;obtain rfl:E=[]:=gz.a0 (by simp) (by simp) (by simp) (by simp) (by simp);obtain rfl:x=[]:=gz.b0 (by simp);obtain rfl:A=0:=gz.o0 (by simp) (by simp);obtain rfl:m=0:=gz.n0 (by simp) (by simp) (by simp);obtain rfl:C=0:=gz.f0 (by simp) (by simp) (by simp) (by simp);obtain rfl:G=[]:=List.eq_nil_of_length_eq_zero (gk.z (by simp));obtain⟨k1,i,s1⟩:=at_now a;obtain⟨b,f,-⟩:=stp_k s1;have p:beg k1=true:=by unfold beg;rw [b,f];rfl
  obtain⟨u,m1,a1⟩:=at_next hL a v;refine⟨u,?_,a1⟩;have q:decide (([116,114,117,101]:Str)=[116,114,117,101])=true/\decide (([116,114,117,101]:Str)=[102,97,108,115,101])=false/\decide (([116,114,117,101]:Str)=[115,116,101,97,100,121])=false/\decide (([116,114,117,101]:Str)=[112,104,97,115,101])=false/\decide (([116,114,117,101]:Str)=[114,117,108,101])=false/\decide (([116,114,117,101]:Str)=[110,111,116])=false/\decide (([116,114,117,101]:Str)=[102,111,114])=false/\decide (([116,114,117,101]:Str)=[119,105,116,104,105,110])=false/\decide (([116,114,117,101]:Str)=[99,111,117,110,116])=false/\decide (([116,114,117,101]:Str)=[114,105,115,101,115])=false/\decide (([116,114,117,101]:Str)=[115,105,110,99,101])=false:=by decide
  rw [i,zA,xO,zA,p,Bool.not_true,zH,zH,b,f,show decide ((1:Int)=2)=false from rfl,zH,show decide ((1:Int)=5)=false from rfl,zH,zA,zH,m1,zA];simp only [q,decide_true,zI,zH,zA]
 ·simp only [Int.reduceEq,↓reduceIte,List.cons_append,List.nil_append]at a;obtain rfl:E=[]:=gz.a0 (by simp) (by simp) (by simp) (by simp) (by simp);obtain rfl:x=[]:=gz.b0 (by simp);obtain rfl:A=0:=gz.o0 (by simp) (by simp);obtain rfl:m=0:=gz.n0 (by simp) (by simp) (by simp);obtain rfl:C=0:=gz.f0 (by simp) (by simp) (by simp) (by simp);obtain rfl:G=[]:=List.eq_nil_of_length_eq_zero (gk.z (by simp));obtain⟨k1,i,s1⟩:=at_now a;obtain⟨b,f,-⟩:=stp_k s1;have p:beg k1=true:=by unfold beg;rw [b,f];rfl
  obtain⟨u,m1,a1⟩:=at_next hL a v;refine⟨u,?_,a1⟩;have q:decide (([102,97,108,115,101]:Str)=[116,114,117,101])=false/\decide (([102,97,108,115,101]:Str)=[102,97,108,115,101])=true/\decide (([102,97,108,115,101]:Str)=[115,116,101,97,100,121])=false/\decide (([102,97,108,115,101]:Str)=[112,104,97,115,101])=false/\decide (([102,97,108,115,101]:Str)=[114,117,108,101])=false/\decide (([102,97,108,115,101]:Str)=[110,111,116])=false/\decide (([102,97,108,115,101]:Str)=[102,111,114])=false/\decide (([102,97,108,115,101]:Str)=[119,105,116,104,105,110])=false/\decide (([102,97,108,115,101]:Str)=[99,111,117,110,116])=false/\decide (([102,97,108,115,101]:Str)=[114,105,115,101,115])=false/\decide (([102,97,108,115,101]:Str)=[115,105,110,99,101])=false:=by decide
  rw [i,zA,xO,zA,p,Bool.not_true,zH,zH,b,f,show decide ((1:Int)=2)=false from rfl,zH,show decide ((1:Int)=5)=false from rfl,zH,zA,zH,m1,zA];simp only [q,decide_true,zI,zH,zA]
 ·simp only [Int.reduceEq,↓reduceIte,List.cons_append,List.nil_append]at a;obtain rfl:x=[]:=gz.b0 (by simp);obtain rfl:C=0:=gz.f0 (by simp) (by simp) (by simp) (by simp);obtain rfl:G=[]:=List.eq_nil_of_length_eq_zero (gk.z (by simp));obtain⟨k1,i,s1⟩:=at_now a;obtain⟨b,f,-⟩:=stp_k s1;obtain⟨s,M,a2⟩:=at_compare hL v (Or.inr rfl) a;refine⟨s,?_,a2⟩;rw [i,zA,xO,zA,beg_name s1 (gz.a1 (by simp)),Bool.not_true,zH,zH,b,show decide ((2:Int)=2)=true from rfl,zI,M,zA];rfl
 ·simp only [Int.reduceEq,↓reduceIte,List.cons_append,List.nil_append]at a;obtain rfl:m=0:=gz.n0 (by simp) (by simp) (by simp);obtain rfl:C=0:=gz.f0 (by simp) (by simp) (by simp) (by simp);obtain rfl:G=[]:=List.eq_nil_of_length_eq_zero (gk.z (by simp));obtain⟨k1,i,s1⟩:=at_now a;obtain⟨b,f,-⟩:=stp_k s1;obtain⟨s,M,a2⟩:=at_compare hL v (Or.inl rfl) a;refine⟨s,?_,a2⟩;rw [i,zA,xO,zA,beg_name s1 (gz.a1 (by simp)),Bool.not_true,zH,zH,b,show decide ((2:Int)=2)=true from rfl,zI,M,zA];rfl
 ·simp only [Int.reduceEq,↓reduceIte,List.cons_append,List.nil_append]at a;obtain rfl:x=[]:=gz.b0 (by simp);obtain rfl:A=0:=gz.o0 (by simp) (by simp);obtain rfl:G=[]:=List.eq_nil_of_length_eq_zero (gk.z (by simp));obtain⟨k1,i,s1⟩:=at_now a;obtain⟨b,f,-⟩:=stp_k s1;have p:beg k1=true:=by unfold beg;rw [b,f];rfl
  obtain⟨u,m1,a1⟩:=at_next hL a (B _ _);obtain⟨t2,s,m2,s2,a2⟩:=at_take hL a1 (B _ _) (K:=2) rfl;obtain⟨-,u2,v2⟩:=stp_k s2;obtain⟨t3,F,m3,T,a3⟩:=at_take hL a2 (B _ _) (K:=3) rfl;obtain⟨-,u3,v3⟩:=stp_k T;obtain⟨t4,N,m4,O,a4⟩:=at_take hL a3 v (K:=3) rfl;obtain⟨-,X,v4⟩:=stp_k O;refine⟨N,?_,a4⟩;have q:decide (([115,116,101,97,100,121]:Str)=[116,114,117,101])=false/\decide (([115,116,101,97,100,121]:Str)=[102,97,108,115,101])=false/\decide (([115,116,101,97,100,121]:Str)=[115,116,101,97,100,121])=true/\decide (([115,116,101,97,100,121]:Str)=[112,104,97,115,101])=false/\decide (([115,116,101,97,100,121]:Str)=[114,117,108,101])=false/\decide (([115,116,101,97,100,121]:Str)=[110,111,116])=false/\decide (([115,116,101,97,100,121]:Str)=[102,111,114])=false/\decide (([115,116,101,97,100,121]:Str)=[119,105,116,104,105,110])=false/\decide (([115,116,101,97,100,121]:Str)=[99,111,117,110,116])=false/\decide (([115,116,101,97,100,121]:Str)=[114,105,115,101,115])=false/\decide (([115,116,101,97,100,121]:Str)=[115,105,110,99,101])=false:=by decide
  rw [i,zA,xO,zA,p,Bool.not_true,zH,zH,b,f,show decide ((1:Int)=2)=false from rfl,zH,show decide ((1:Int)=5)=false from rfl,zH,zA,zH,m1,zA];simp only [q,decide_true,zI,zH,zA];rw [m2,zA]
  try dsimp only
  rw [m3,zA]
  try dsimp only
  rw [m4,zA]
  try dsimp only
  rw [u2,v3,v4]
 ·simp only [Int.reduceEq,↓reduceIte,List.cons_append,List.nil_append]at a;obtain rfl:x=[]:=gz.b0 (by simp);obtain rfl:A=0:=gz.o0 (by simp) (by simp);obtain rfl:m=0:=gz.n0 (by simp) (by simp) (by simp);obtain rfl:C=0:=gz.f0 (by simp) (by simp) (by simp) (by simp);obtain rfl:G=[]:=List.eq_nil_of_length_eq_zero (gk.z (by simp));obtain⟨k1,i,s1⟩:=at_now a;obtain⟨b,f,-⟩:=stp_k s1;have p:beg k1=true:=by unfold beg;rw [b,f];rfl
  obtain⟨u,m1,a1⟩:=at_next hL a (B _ _);obtain⟨t2,s,m2,s2,a2⟩:=at_take hL a1 v (K:=2) rfl;obtain⟨-,u2,v2⟩:=stp_k s2;refine⟨s,?_,a2⟩;have q:decide (([112,104,97,115,101]:Str)=[116,114,117,101])=false/\decide (([112,104,97,115,101]:Str)=[102,97,108,115,101])=false/\decide (([112,104,97,115,101]:Str)=[115,116,101,97,100,121])=false/\decide (([112,104,97,115,101]:Str)=[112,104,97,115,101])=true/\decide (([112,104,97,115,101]:Str)=[114,117,108,101])=false/\decide (([112,104,97,115,101]:Str)=[110,111,116])=false/\decide (([112,104,97,115,101]:Str)=[102,111,114])=false/\decide (([112,104,97,115,101]:Str)=[119,105,116,104,105,110])=false/\decide (([112,104,97,115,101]:Str)=[99,111,117,110,116])=false/\decide (([112,104,97,115,101]:Str)=[114,105,115,101,115])=false/\decide (([112,104,97,115,101]:Str)=[115,105,110,99,101])=false:=by decide
  rw [i,zA,xO,zA,p,Bool.not_true,zH,zH,b,f,show decide ((1:Int)=2)=false from rfl,zH,show decide ((1:Int)=5)=false from rfl,zH,zA,zH,m1,zA];simp only [q,decide_true,zI,zH,zA];rw [m2,zA]
  try dsimp only
  rw [u2]
 ·simp only [Int.reduceEq,↓reduceIte,List.cons_append,List.nil_append]at a;obtain rfl:x=[]:=gz.b0 (by simp);obtain rfl:A=0:=gz.o0 (by simp) (by simp);obtain rfl:m=0:=gz.n0 (by simp) (by simp) (by simp);obtain rfl:C=0:=gz.f0 (by simp) (by simp) (by simp) (by simp);obtain rfl:G=[]:=List.eq_nil_of_length_eq_zero (gk.z (by simp));obtain⟨k1,i,s1⟩:=at_now a;obtain⟨b,f,-⟩:=stp_k s1;have p:beg k1=true:=by unfold beg;rw [b,f];rfl
  obtain⟨u,m1,a1⟩:=at_next hL a (B _ _);obtain⟨t2,s,m2,s2,a2⟩:=at_take hL a1 v (K:=2) rfl;obtain⟨-,u2,v2⟩:=stp_k s2;refine⟨s,?_,a2⟩;have q:decide (([114,117,108,101]:Str)=[116,114,117,101])=false/\decide (([114,117,108,101]:Str)=[102,97,108,115,101])=false/\decide (([114,117,108,101]:Str)=[115,116,101,97,100,121])=false/\decide (([114,117,108,101]:Str)=[112,104,97,115,101])=false/\decide (([114,117,108,101]:Str)=[114,117,108,101])=true/\decide (([114,117,108,101]:Str)=[110,111,116])=false/\decide (([114,117,108,101]:Str)=[102,111,114])=false/\decide (([114,117,108,101]:Str)=[119,105,116,104,105,110])=false/\decide (([114,117,108,101]:Str)=[99,111,117,110,116])=false/\decide (([114,117,108,101]:Str)=[114,105,115,101,115])=false/\decide (([114,117,108,101]:Str)=[115,105,110,99,101])=false:=by decide
  rw [i,zA,xO,zA,p,Bool.not_true,zH,zH,b,f,show decide ((1:Int)=2)=false from rfl,zH,show decide ((1:Int)=5)=false from rfl,zH,zA,zH,m1,zA];simp only [q,decide_true,zI,zH,zA];rw [m2,zA]
  try dsimp only
  rw [u2]
 ·simp only [Int.reduceEq,↓reduceIte,List.cons_append]at a;obtain rfl:E=[]:=gz.a0 (by simp) (by simp) (by simp) (by simp) (by simp);obtain rfl:x=[]:=gz.b0 (by simp);obtain rfl:A=0:=gz.o0 (by simp) (by simp);obtain rfl:m=0:=gz.n0 (by simp) (by simp) (by simp);obtain rfl:C=0:=gz.f0 (by simp) (by simp) (by simp) (by simp);obtain⟨d,rfl⟩:=one_of (gk.o (by simp));rw [show(tkcs [d] 3).flatten=tkc d 3 from by rw [tkcs,tkcs,List.flatten_cons,List.flatten_nil,List.append_nil]]at a;obtain⟨k1,i,s1⟩:=at_now a;obtain⟨b,f,-⟩:=stp_k s1;have p:beg k1=true:=by unfold beg;rw [b,f];rfl
  obtain⟨u,m1,a1⟩:=at_next hL a (H _);obtain⟨s,m2,a2⟩:=D d List.mem_cons_self u _ v trivial a1;refine⟨s,?_,a2⟩;have q:decide (([110,111,116]:Str)=[116,114,117,101])=false/\decide (([110,111,116]:Str)=[102,97,108,115,101])=false/\decide (([110,111,116]:Str)=[115,116,101,97,100,121])=false/\decide (([110,111,116]:Str)=[112,104,97,115,101])=false/\decide (([110,111,116]:Str)=[114,117,108,101])=false/\decide (([110,111,116]:Str)=[110,111,116])=true/\decide (([110,111,116]:Str)=[102,111,114])=false/\decide (([110,111,116]:Str)=[119,105,116,104,105,110])=false/\decide (([110,111,116]:Str)=[99,111,117,110,116])=false/\decide (([110,111,116]:Str)=[114,105,115,101,115])=false/\decide (([110,111,116]:Str)=[115,105,110,99,101])=false:=by decide
  rw [i,zA,xO,zA,p,Bool.not_true,zH,zH,b,f,show decide ((1:Int)=2)=false from rfl,zH,show decide ((1:Int)=5)=false from rfl,zH,zA,zH,m1,zA];simp only [q,decide_true,zI,zH,zA];rw [m2,zA]
  try dsimp only
 ·simp only [Int.reduceEq,↓reduceIte,List.cons_append]at a;obtain rfl:E=[]:=gz.a0 (by simp) (by simp) (by simp) (by simp) (by simp);obtain rfl:x=[]:=gz.b0 (by simp);obtain rfl:A=0:=gz.o0 (by simp) (by simp);obtain rfl:m=0:=gz.n0 (by simp) (by simp) (by simp);obtain⟨d,rfl⟩:=one_of (gk.o (by simp));rw [show(tkcs [d] 3).flatten=tkc d 3 from by rw [tkcs,tkcs,List.flatten_cons,List.flatten_nil,List.append_nil]]at a;obtain⟨k1,i,s1⟩:=at_now a;obtain⟨b,f,-⟩:=stp_k s1;have p:beg k1=true:=by unfold beg;rw [b,f];rfl
  obtain⟨u,m1,a1⟩:=at_next hL a (B _ _);obtain⟨t2,s,m2,s2,a2⟩:=at_take hL a1 (H _) (K:=3) rfl;obtain⟨-,u2,v2⟩:=stp_k s2;obtain⟨F,m3,a3⟩:=D d List.mem_cons_self s _ v trivial a2;refine⟨F,?_,a3⟩;have q:decide (([102,111,114]:Str)=[116,114,117,101])=false/\decide (([102,111,114]:Str)=[102,97,108,115,101])=false/\decide (([102,111,114]:Str)=[115,116,101,97,100,121])=false/\decide (([102,111,114]:Str)=[112,104,97,115,101])=false/\decide (([102,111,114]:Str)=[114,117,108,101])=false/\decide (([102,111,114]:Str)=[110,111,116])=false/\decide (([102,111,114]:Str)=[102,111,114])=true/\decide (([102,111,114]:Str)=[119,105,116,104,105,110])=false/\decide (([102,111,114]:Str)=[99,111,117,110,116])=false/\decide (([102,111,114]:Str)=[114,105,115,101,115])=false/\decide (([102,111,114]:Str)=[115,105,110,99,101])=false:=by decide
  rw [i,zA,xO,zA,p,Bool.not_true,zH,zH,b,f,show decide ((1:Int)=2)=false from rfl,zH,show decide ((1:Int)=5)=false from rfl,zH,zA,zH,m1,zA];simp only [q,decide_true,zI,zH,zA];rw [m2,zA]
  try dsimp only
  rw [m3,zA]
  try dsimp only
  rw [v2]
 ·simp only [Int.reduceEq,↓reduceIte,List.cons_append]at a;obtain rfl:E=[]:=gz.a0 (by simp) (by simp) (by simp) (by simp) (by simp);obtain rfl:x=[]:=gz.b0 (by simp);obtain rfl:A=0:=gz.o0 (by simp) (by simp);obtain rfl:m=0:=gz.n0 (by simp) (by simp) (by simp);obtain⟨d,rfl⟩:=one_of (gk.o (by simp));rw [show(tkcs [d] 3).flatten=tkc d 3 from by rw [tkcs,tkcs,List.flatten_cons,List.flatten_nil,List.append_nil]]at a;obtain⟨k1,i,s1⟩:=at_now a;obtain⟨b,f,-⟩:=stp_k s1;have p:beg k1=true:=by unfold beg;rw [b,f];rfl
  obtain⟨u,m1,a1⟩:=at_next hL a (B _ _);obtain⟨t2,s,m2,s2,a2⟩:=at_take hL a1 (H _) (K:=3) rfl;obtain⟨-,u2,v2⟩:=stp_k s2;obtain⟨F,m3,a3⟩:=D d List.mem_cons_self s _ v trivial a2;refine⟨F,?_,a3⟩;have q:decide (([119,105,116,104,105,110]:Str)=[116,114,117,101])=false/\decide (([119,105,116,104,105,110]:Str)=[102,97,108,115,101])=false/\decide (([119,105,116,104,105,110]:Str)=[115,116,101,97,100,121])=false/\decide (([119,105,116,104,105,110]:Str)=[112,104,97,115,101])=false/\decide (([119,105,116,104,105,110]:Str)=[114,117,108,101])=false/\decide (([119,105,116,104,105,110]:Str)=[110,111,116])=false/\decide (([119,105,116,104,105,110]:Str)=[102,111,114])=false/\decide (([119,105,116,104,105,110]:Str)=[119,105,116,104,105,110])=true/\decide (([119,105,116,104,105,110]:Str)=[99,111,117,110,116])=false/\decide (([119,105,116,104,105,110]:Str)=[114,105,115,101,115])=false/\decide (([119,105,116,104,105,110]:Str)=[115,105,110,99,101])=false:=by decide
  rw [i,zA,xO,zA,p,Bool.not_true,zH,zH,b,f,show decide ((1:Int)=2)=false from rfl,zH,show decide ((1:Int)=5)=false from rfl,zH,zA,zH,m1,zA];simp only [q,decide_true,zI,zH,zA];rw [m2,zA]
  try dsimp only
  rw [m3,zA]
  try dsimp only
  rw [v2]
 ·simp only [Int.reduceEq,↓reduceIte,List.cons_append]at a;obtain rfl:E=[]:=gz.a0 (by simp) (by simp) (by simp) (by simp) (by simp);obtain rfl:x=[]:=gz.b0 (by simp);obtain rfl:A=0:=gz.o0 (by simp) (by simp);obtain⟨d,rfl⟩:=one_of (gk.o (by simp));rw [show(tkcs [d] 3).flatten=tkc d 3 from by rw [tkcs,tkcs,List.flatten_cons,List.flatten_nil,List.append_nil]]at a;obtain⟨k1,i,s1⟩:=at_now a;obtain⟨b,f,-⟩:=stp_k s1;have p:beg k1=true:=by unfold beg;rw [b,f];rfl
  obtain⟨u,m1,a1⟩:=at_next hL a (B _ _);obtain⟨t2,s,m2,s2,a2⟩:=at_take hL a1 (B _ _) (K:=3) rfl;obtain⟨-,u2,v2⟩:=stp_k s2;obtain⟨F,m3,a3⟩:=at_want hL a2 (B _ _) (Or.inl rfl);obtain⟨t4,N,m4,O,a4⟩:=at_take hL a3 (H _) (K:=3) rfl;obtain⟨-,X,v4⟩:=stp_k O;obtain⟨Y,m5,a5⟩:=D d List.mem_cons_self N _ v trivial a4;refine⟨Y,?_,a5⟩;have q:decide (([99,111,117,110,116]:Str)=[116,114,117,101])=false/\decide (([99,111,117,110,116]:Str)=[102,97,108,115,101])=false/\decide (([99,111,117,110,116]:Str)=[115,116,101,97,100,121])=false/\decide (([99,111,117,110,116]:Str)=[112,104,97,115,101])=false/\decide (([99,111,117,110,116]:Str)=[114,117,108,101])=false/\decide (([99,111,117,110,116]:Str)=[110,111,116])=false/\decide (([99,111,117,110,116]:Str)=[102,111,114])=false/\decide (([99,111,117,110,116]:Str)=[119,105,116,104,105,110])=false/\decide (([99,111,117,110,116]:Str)=[99,111,117,110,116])=true/\decide (([99,111,117,110,116]:Str)=[114,105,115,101,115])=false/\decide (([99,111,117,110,116]:Str)=[115,105,110,99,101])=false:=by decide
  rw [i,zA,xO,zA,p,Bool.not_true,zH,zH,b,f,show decide ((1:Int)=2)=false from rfl,zH,show decide ((1:Int)=5)=false from rfl,zH,zA,zH,m1,zA];simp only [q,decide_true,zI,zH,zA];rw [m2,zA]
  try dsimp only
  rw [show Faj s [111,102]=some F from m3,zA]
  try dsimp only
  rw [m4,zA]
  try dsimp only
  rw [m5,zA]
  try dsimp only
  rw [v2,v4]
 ·simp only [Int.reduceEq,↓reduceIte,List.cons_append]at a;obtain rfl:E=[]:=gz.a0 (by simp) (by simp) (by simp) (by simp) (by simp);obtain rfl:x=[]:=gz.b0 (by simp);obtain rfl:A=0:=gz.o0 (by simp) (by simp);obtain rfl:m=0:=gz.n0 (by simp) (by simp) (by simp);obtain rfl:C=0:=gz.f0 (by simp) (by simp) (by simp) (by simp);obtain⟨d,e,rfl⟩:=two_of (gk.t rfl);rw [show(tkcs [d,e] 3).flatten=tkc d 3++tkc e 3 from by rw [tkcs,tkcs,tkcs,List.flatten_cons,List.flatten_cons,List.flatten_nil,List.append_nil],List.append_assoc]at a;obtain⟨k1,i,s1⟩:=at_now a;obtain⟨b,f,-⟩:=stp_k s1;have p:beg k1=true:=by unfold beg;rw [b,f];rfl
  obtain⟨u,m1,a1⟩:=at_next hL a (λe=>H _ (List.append_eq_nil_iff.1 e).2);obtain⟨s,m2,a2⟩:=D d List.mem_cons_self u _ (H _) trivial a1;obtain⟨F,m3,a3⟩:=D e (List.mem_cons_of_mem _ List.mem_cons_self) s _ v trivial a2;refine⟨F,?_,a3⟩;have q:decide (([115,105,110,99,101]:Str)=[116,114,117,101])=false/\decide (([115,105,110,99,101]:Str)=[102,97,108,115,101])=false/\decide (([115,105,110,99,101]:Str)=[115,116,101,97,100,121])=false/\decide (([115,105,110,99,101]:Str)=[112,104,97,115,101])=false/\decide (([115,105,110,99,101]:Str)=[114,117,108,101])=false/\decide (([115,105,110,99,101]:Str)=[110,111,116])=false/\decide (([115,105,110,99,101]:Str)=[102,111,114])=false/\decide (([115,105,110,99,101]:Str)=[119,105,116,104,105,110])=false/\decide (([115,105,110,99,101]:Str)=[99,111,117,110,116])=false/\decide (([115,105,110,99,101]:Str)=[114,105,115,101,115])=false/\decide (([115,105,110,99,101]:Str)=[115,105,110,99,101])=true:=by decide
  rw [i,zA,xO,zA,p,Bool.not_true,zH,zH,b,f,show decide ((1:Int)=2)=false from rfl,zH,show decide ((1:Int)=5)=false from rfl,zH,zA,zH,m1,zA];simp only [q,decide_true,zI,zH,zA];rw [m2,zA]
  try dsimp only
  rw [m3,zA]
  try dsimp only
 ·simp only [Int.reduceEq,↓reduceIte,List.cons_append]at a;obtain rfl:E=[]:=gz.a0 (by simp) (by simp) (by simp) (by simp) (by simp);obtain rfl:x=[]:=gz.b0 (by simp);obtain rfl:A=0:=gz.o0 (by simp) (by simp);obtain rfl:m=0:=gz.n0 (by simp) (by simp) (by simp);obtain rfl:C=0:=gz.f0 (by simp) (by simp) (by simp) (by simp);obtain⟨d,rfl⟩:=one_of (gk.o (by simp));rw [show(tkcs [d] 3).flatten=tkc d 3 from by rw [tkcs,tkcs,List.flatten_cons,List.flatten_nil,List.append_nil]]at a;obtain⟨k1,i,s1⟩:=at_now a;obtain⟨b,f,-⟩:=stp_k s1;have p:beg k1=true:=by unfold beg;rw [b,f];rfl
  obtain⟨u,m1,a1⟩:=at_next hL a (H _);obtain⟨s,m2,a2⟩:=D d List.mem_cons_self u _ v trivial a1;refine⟨s,?_,a2⟩;have q:decide (([114,105,115,101,115]:Str)=[116,114,117,101])=false/\decide (([114,105,115,101,115]:Str)=[102,97,108,115,101])=false/\decide (([114,105,115,101,115]:Str)=[115,116,101,97,100,121])=false/\decide (([114,105,115,101,115]:Str)=[112,104,97,115,101])=false/\decide (([114,105,115,101,115]:Str)=[114,117,108,101])=false/\decide (([114,105,115,101,115]:Str)=[110,111,116])=false/\decide (([114,105,115,101,115]:Str)=[102,111,114])=false/\decide (([114,105,115,101,115]:Str)=[119,105,116,104,105,110])=false/\decide (([114,105,115,101,115]:Str)=[99,111,117,110,116])=false/\decide (([114,105,115,101,115]:Str)=[114,105,115,101,115])=true/\decide (([114,105,115,101,115]:Str)=[115,105,110,99,101])=false:=by decide
  rw [i,zA,xO,zA,p,Bool.not_true,zH,zH,b,f,show decide ((1:Int)=2)=false from rfl,zH,show decide ((1:Int)=5)=false from rfl,zH,zA,zH,m1,zA];simp only [q,decide_true,zI,zH,zA];rw [m2,zA]
  try dsimp only
end
theorem tkc_2 (c:Cond):tkc c 2=tkc c 3:=by
 obtain⟨k,_,_,_,_,_,_⟩:=c;rw [tkc,tkc];by_cases h:k=9;rw [if_pos h,if_pos h];rfl;rw [if_neg h,if_neg h];by_cases a:k=10;rw [if_pos a,if_pos a];rfl;rw [if_neg a,if_neg a]
theorem tkc_1 (c:Cond)(h:c.Kind≠9):tkc c 1=tkc c 3:=by
 obtain⟨k,_,_,_,_,_,_⟩:=c;dsimp only at h;rw [tkc,tkc,if_neg h,if_neg h];by_cases a:k=10;rw [if_pos a,if_pos a];rfl;rw [if_neg a,if_neg a]
theorem tkc_0 (c:Cond)(h:c.Kind≠9)(a:c.Kind≠10):tkc c 0=tkc c 3:=by
 obtain⟨_,_,_,_,_,_,_⟩:=c;dsimp only at h a;rw [tkc,tkc,if_neg h,if_neg h,if_neg a,if_neg a]
theorem tkc_9 (c:Cond)(h:c.Kind=9){x:Nat}(a:x=0\/x=1):tkc c x=jk (1,[97,110,100],0) (c.Kids.map λd=>tkc d 2):=by
 obtain⟨_,_,_,_,_,_,_⟩:=c;dsimp only at h⊢;subst h;rw [tkc,if_pos rfl,<-tkcs_map];rcases a with rfl|rfl<;>rfl
theorem tkc_10 (c:Cond)(h:c.Kind=10):tkc c 0=jk (1,[111,114],0) (c.Kids.map λd=>tkc d 1):=by
 obtain⟨_,_,_,_,_,_,_⟩:=c;dsimp only at h⊢;subst h;rw [tkc,if_neg (by decide),if_pos rfl,<-tkcs_map];rfl
theorem list_shape {c:Cond}(g:Gt c)(h:c.Kind=9\/c.Kind=10): ∃a b l,c.Kids=a::b::l/\l.length<=500/\c=Cond.mk c.Kind [] [] 0 0 0 (a::b::l):=by
 have gk:=g.gk;have gz:=g.gz;have d:=vY c.Kids;have e:=aAa c;have q:=g.n;obtain⟨_,f,i,j,m,o,p⟩:=c;dsimp only at h d e;have l2:=gk.g h;dsimp only at l2;obtain rfl:f=[]:=gz.a0 (by dsimp only;omega) (by dsimp only;omega) (by dsimp only;omega) (by dsimp only;omega) (by dsimp only;omega);obtain rfl:i=[]:=gz.b0 (by dsimp only;omega);obtain rfl:j=0:=gz.o0 (by dsimp only;omega) (by dsimp only;omega);obtain rfl:m=0:=gz.n0 (by dsimp only;omega) (by dsimp only;omega) (by dsimp only;omega);obtain rfl:o=0:=gz.f0 (by dsimp only;omega) (by dsimp only;omega) (by dsimp only;omega) (by dsimp only;omega)
 match p,l2,d,e with
 |a::b::l,_,d,e=>exact⟨a,b,l,rfl,by simp only [List.length_cons]at d;omega,rfl⟩
section
variable {L:List Tk} (hL:L.length<=2000000)
include hL
theorem both_ok {k j D:Nat} (f: ∀e,Gt e->dN e<=D->Pq L (Fbo (Fal k) FU) (j:Int) e (tkc e 3) TT) {c:Cond} (g:Gt c) (n:(c.Kind=9/\dN c<=D+1)\/dN c<=D):
  Pq L (Fa4 (Fal k)) (j:Int) c (tkc c 1) (NW [97,110,100]):=by
 intro y r o s a;rw [lr_and]
 by_cases h:c.Kind=9
 ·obtain⟨p,q,l,u,x,A⟩:=list_shape g (Or.inl h);rw [tkc_9 c h (Or.inr rfl),u]at a;have F:dN c<=D+1:=by rcases n with z|z;exact z.2;omega
  have:=aLp hL (h:=Fbf (Fal k)) (m:=(j:Int)) (w:=[97,110,100]) (Q:=TT) (λd=>tkc d 2) (λ_=>trivial) (c:=p) (c2:=q) (l:=l) (p2:=9)
   (λd b=>by
    have v:d∈c.Kids:=by rw [u];exact b
    obtain⟨_,hi⟩:=List.getElem?_of_mem v;have:=(sZ g.ok hi).2.1;rw [tkc_2];exact f d (g.kid v) (by omega)) x o trivial s a
  obtain⟨B,C,E⟩:=this;refine⟨B,?_,E⟩;rw [C]
  conv=>rhs;rw [A,h]
 ·rw [tkc_1 c h]at a;exact ls_one (Q:=TT) (f c g (by rcases n with z|z;exact absurd z.1 h;exact z)) o trivial s a
theorem aMs {k j D:Nat} (v: ∀e,Gt e->dN e<=D->Pq L (Fbo (Fal k) FU) (j:Int) e (tkc e 3) TT) {c:Cond} (g:Gt c) (x:((c.Kind=9\/c.Kind=10)/\dN c<=D+1)\/dN c<=D):
  ∀y r,r≠[]->NW [97,110,100] r->NW [111,114] r->At L y (tkc c 0++r)-> ∃b,Fal (k+1) y (j:Int)=some (c,b)/\At L b r:=by
 intro y r A B no a;have n: ∃b,Fbp (Fal k) y (j:Int)=some (c,b)/\At L b r:=by
  rw [lr_or]
  by_cases h:c.Kind=10
  ·obtain⟨p,q,l,C,F,G⟩:=list_shape g (Or.inr h);rw [tkc_10 c h,C]at a;have H:dN c<=D+1:=by rcases x with z|z;exact z.2;omega
   have:=aLp hL (h:=Fa4 (Fal k)) (m:=(j:Int)) (w:=[111,114]) (Q:=NW [97,110,100]) (λd=>tkc d 1) (λr t l e _=>by injection e with e _;subst e;decide) (c:=p) (c2:=q) (l:=l) (p2:=10)
    (λd o=>by
     have E:d∈c.Kids:=by rw [C];exact o
     obtain⟨_,hi⟩:=List.getElem?_of_mem E;have:=(sZ g.ok hi).2.1;exact both_ok hL v (g.kid E) (Or.inr (by omega))) F A B no a
   obtain⟨b,s,u⟩:=this;refine⟨b,?_,u⟩;rw [s]
   conv=>rhs;rw [G,h]
  ·have e:tkc c 0=tkc c 1:=by
    by_cases f:c.Kind=9
    ·rw [tkc_9 c f (Or.inl rfl),tkc_9 c f (Or.inr rfl)]
    ·rw [tkc_0 c f h,tkc_1 c f]
   rw [e]at a;exact ls_one (Q:=NW [97,110,100]) (both_ok hL v g (by rcases x with ⟨z|z,y⟩|z;exact Or.inl ⟨z,y⟩;exact absurd z h;exact Or.inr z)) A B no a
 obtain⟨b,s,u⟩:=n;refine⟨b,?_,u⟩;show Fa7 (Fal k) y (j:Int)=_;unfold Fa7;rw [yX,s,zA]
theorem part_ok: ∀(d:Nat) (c:Cond),dN c<=d->Gt c-> ∀m:Nat,2*d<=m->m<=60-> ∀n k,m<n->m<=k->Pq L (Fbo (Fal k) n) (m:Int) c (tkc c 3) TT
 |0,c,h,_,_,_,_,_,_,_,_=>by have:=sD c;omega
 |d+1,c,h,g,m,_,_,n,k,_,_=>by
  obtain⟨j,rfl⟩: ∃j,m=j+1:=⟨m-1,by omega⟩;obtain⟨n,rfl⟩: ∃i,n=i+1:=⟨n-1,by omega⟩
  by_cases a:c.Kind=9\/c.Kind=10
  ·obtain⟨k,rfl⟩: ∃i,k=i+1:=⟨k-1,by omega⟩;exact aKs hL a (by omega) (aMs hL (D:=d) (λe l b=>part_ok d e b l j (by omega) (by omega) FU k (jL (by omega)) (by omega)) g (Or.inl ⟨a,h⟩))
  ·exact part_node hL g (λz=>a (Or.inl z)) (λz=>a (Or.inr z)) (by omega) λe b=>by
    obtain⟨i,hi⟩:=List.getElem?_of_mem b;have:=(sZ g.ok hi).2.1;exact part_ok d e (by omega) (g.kid b) j (by omega) (by omega) n k (by omega) (by omega)
theorem read_cond {c:Cond}(g:Gt c): ∀y r,r≠[]->NW [97,110,100] r->NW [111,114] r->At L y (tkc c 0++r)-> ∃a,Fa9 y 60=some (c,a)/\At L a r:=by
 obtain⟨k,b,_⟩:=FU_j;have:=aMs hL (k:=k) (j:=60) (D:=20) (λe f i=>part_ok hL 20 e i f 60 (by omega) (by omega) FU k (jL (by omega)) (by omega)) g (Or.inr g.d);unfold Fa9;rw [b];exact this
end
structure Gn (r:Rules):Prop where
 p: ∀x∈r.Phases,nV x=true
 m: ∀x∈r.Moves,nV x.From=true/\nV x.To=true
 l: ∀x∈r.Rules,nV x.Name=true
theorem chk_names {r:Rules} (h:chk r=some 0):Gn r:=by
 unfold chk at h;split at h
 ·exact absurd (oI h) (by decide)
 ·obtain⟨e,f⟩:=rH (phE r.Phases) _ _ _ h;obtain⟨i,k⟩:=rH (λ_=>mvE r) _ _ _ e;obtain⟨_,l⟩:=rH (rlE r) _ _ _ i;have d: ∀x∈r.Phases,nV x=true:=by
   intro x b;obtain⟨j,c⟩:=List.getElem?_of_mem b;have:=f j x c;unfold phE at this;split at this
   ·assumption
   ·exact absurd this (by decide)
  refine⟨d,?_,?_⟩
  ·intro x b;obtain⟨j,c⟩:=List.getElem?_of_mem b;have:=k j x c;unfold mvE at this;split at this
   ·rename_i a;obtain⟨y,n,o⟩:=List.any_eq_true.1 a.1;obtain⟨z,p,z2⟩:=List.any_eq_true.1 a.2;exact⟨by rw [of_decide_eq_true o];exact d y n,by rw [of_decide_eq_true z2];exact d z p⟩
   ·exact absurd this (by decide)
  ·intro x b;obtain⟨j,c⟩:=List.getElem?_of_mem b;have:=l j x c;unfold rlE at this;split at this
   ·assumption
   ·exact absurd this (by decide)
def lnP (p:Str):Str:=[112,104,97,115,101,32]++p++[10]
def lnM (m:fQ):Str:=[109,111,118,101,32]++m.From++[32]++m.To++[32,105,102,32]++tx m.When 0++[10]
def lnR (x:dJ):Str:=[114,117,108,101,32]++x.Name++[32,105,102,32]++tx x.When 0++[10]
def cat {a:Type}(f:a->Str)(l:List a):Str:=(l.map f).flatten
def docT (r:Rules):Str:=cat lnP r.Phases++cat lnM r.Moves++cat lnR r.Rules
theorem cat_snoc {a:Type}(f:a->Str)(l:List a)(x:a):cat f (l++[x])=cat f l++f x:=by unfold cat;simp
theorem aMg (s t:Str):nums (s++t)=nums s++nums t:=by unfold nums;rw [List.map_append]
theorem cat_take {a:Type}(f:a->Str)(B:Nat): ∀(l:List a),(∀x∈l,(f x).length<=B)->(cat f l).length<=l.length*B
 | [],_=>Nat.zero_le _
 |x::l,h=>by
  unfold cat;rw [List.map_cons,List.flatten_cons,List.length_append,List.length_cons,Nat.succ_mul];have d:=h x List.mem_cons_self;have b:=cat_take f B l λy c=>h y (List.mem_cons_of_mem _ c)
  unfold cat at b;omega
theorem write_ok (a b:Str)(h:a.length+b.length<=100000000):Fcv (nums a) b=some ((b.length:Int),(),nums (a++b)):=by
 unfold Fcv Ffv;rw [zA,app1 _ _ (by rw [kG,kG];omega),zA,aMg];rfl
theorem app_ok (a b:Str)(h:a.length+b.length<=100000000):app' 1 (nums a) (nums b)=some (nums (a++b)):=by
 rw [app1 _ _ (by rw [kG,kG];omega),aMg]
theorem str_nm (s:Str):str' (nums s)=s:=by
 unfold str' nums;rw [List.map_map]
 conv=>rhs;rw [<-List.map_id s]
 refine List.map_congr_left λ_ _=>?_
 simp
section
variable {r:Rules} (g:Gr' r)
include g
omit g in
theorem when_len {c:Cond}(a:Gt c):(tx c 0).length<=40000:=by
 have b:=yY (dN c) c 0 (Nat.le_refl _) a;have d:=a.n;omega
theorem lens (_:Nat):(∀p∈r.Phases,(lnP p).length<=50000)/\(∀m∈r.Moves,(lnM m).length<=50000)/\(∀m∈r.Rules,(lnR m).length<=50000):=by
 refine⟨λp e=>?_,λm d=>?_,λm d=>?_⟩
 ·have:=g.pn p e;unfold lnP;simp only [List.length_append,List.length_cons,List.length_nil];omega
 ·obtain⟨a,b,_⟩:=g.mg m d;have:=when_len a;unfold lnM;simp only [List.length_append,List.length_cons,List.length_nil];omega
 ·obtain⟨a,b⟩:=g.lg m d;have:=when_len a;unfold lnR;simp only [List.length_append,List.length_cons,List.length_nil];omega
omit g in
theorem condText_ok {c:Cond}(a:Gt c):Feq c 0=some (tx c 0)/\F_ref6_shown c 0=some (tx c 0):=
 ⟨condText_R FU c 0 (Nat.le_of_lt (tZ (by have:=a.d;omega))) a (by omega),aLm FU c 0 (Nat.le_of_lt (tZ (by have:=a.d;omega))) a (by omega)⟩
theorem print1:Fgq r (r.Phases.length:Int) (0,[])=some (nums (cat lnP r.Phases))/\F_ref6_Print_L1 r ([],0)=some (nums (cat lnP r.Phases)):=by
 have I:=g.p;have B:=(lens g 0).1;have C: ∀i:Nat,i<=r.Phases.length->(cat lnP (r.Phases.take i)).length<=10000000:=λi hi=>by
  have z:=cat_take lnP 50000 (r.Phases.take i) λx a=>B x (List.mem_of_mem_take a)
  have A:(r.Phases.take i).length*50000<=20*50000:=Nat.mul_le_mul_right _ (by rw [List.length_take];omega);omega
 constructor
 ·unfold Fgq;obtain⟨q,z,A⟩:=qF (body:=λc (s:Int×List Int)=>match s with |⟨g355,g359⟩=>gV (decide (g355<(r.Phases.length:Int))) (gI (at' r.Phases g355) λd=>gI (cat' [112,104,97,115,101,32] d) λe=>gI (cat' e [10]) λf=>gI (Fcv g359 f) λ⟨_,_,j⟩=>c (IntKind.i64.wrap (g355+1),j)) (some g359))
   (λ(i:Nat) (s:List Int)=>((i:Int),s)) r.Phases (λi s=>s=nums (cat lnP (r.Phases.take i))) (λq=>q=nums (cat lnP r.Phases)) (by omega)
   (λk i s p a hi b=>by
    subst b;have F:=C i (Nat.le_of_lt hi);have G:=g.pn p (mG a);have H:=B p (mG a);refine⟨nums (cat lnP (r.Phases.take (i+1))),rfl,?_⟩;dsimp only;rw [xJ hi,zI,bD a,zA,cat_ok (by simp only [List.length_cons,List.length_nil];omega),zA,cat_ok (by simp only [List.length_append,List.length_cons,List.length_nil];omega),zA,
     show [112,104,97,115,101,32]++p++[10]=lnP p from rfl,write_ok _ _ (by omega),zA,dM hi (by omega),take_snoc a,cat_snoc])
   (λk s b=>by
    subst b;dsimp only;rw [xI,zH,List.take_length];exact⟨_,rfl,rfl⟩) [] rfl
  exact(show(fG _ ((0:Int),([]:List Int)):Option (List Int))=_ from z).trans (by rw [A])
 ·unfold F_ref6_Print_L1;obtain⟨q,z,A⟩:=qF (body:=λl (s:List Int×Int)=>match s with |⟨g311,g313⟩=>gV (decide (g313<(r.Phases.length:Int))) (gI (at' r.Phases g313) λn=>gI (cat' [112,104,97,115,101,32] n) λo=>gI (cat' o [10]) λu=>gI (app' 1 g311 (nums u)) λv=>l (v,IntKind.i64.wrap (g313+1))) (some g311))
   (λ(i:Nat) (s:List Int)=>(s,(i:Int))) r.Phases (λi s=>s=nums (cat lnP (r.Phases.take i))) (λq=>q=nums (cat lnP r.Phases)) (by omega)
   (λk i s p a hi b=>by
    subst b;have F:=C i (Nat.le_of_lt hi);have G:=g.pn p (mG a);have H:=B p (mG a);refine⟨nums (cat lnP (r.Phases.take (i+1))),rfl,?_⟩;dsimp only;rw [xJ hi,zI,bD a,zA,cat_ok (by simp only [List.length_cons,List.length_nil];omega),zA,cat_ok (by simp only [List.length_append,List.length_cons,List.length_nil];omega),zA,
     show [112,104,97,115,101,32]++p++[10]=lnP p from rfl,app_ok _ _ (by omega),zA,dM hi (by omega),take_snoc a,cat_snoc])
   (λk s b=>by
    subst b;dsimp only;rw [xI,zH,List.take_length];exact⟨_,rfl,rfl⟩) [] rfl
  exact(show(fG _ (([]:List Int),(0:Int)):Option (List Int))=_ from z).trans (by rw [A])
end
section
variable {r:Rules} (g:Gr' r)
include g
theorem print2p (A:Str)(z:A.length<=20000000):Fgp r (r.Moves.length:Int) (0,nums A)=some (nums (A++cat lnM r.Moves)):=by
 have B:=g.m;have e:=(lens g 0).2.1;have o: ∀i:Nat,i<=r.Moves.length->(cat lnM (r.Moves.take i)).length<=10000000:=λi hi=>by
  have f:=cat_take lnM 50000 (r.Moves.take i) λx b=>e x (List.mem_of_mem_take b)
  have j:(r.Moves.take i).length*50000<=60*50000:=Nat.mul_le_mul_right _ (by rw [List.length_take];omega);omega
 unfold Fgp;obtain⟨q,f,j⟩:=qF (body:=λk (s:Int×List Int)=>match s with |⟨i,a⟩=>gV (decide (i<(r.Moves.length:Int))) (gI (at' r.Moves i) λc=>gI (cat' [109,111,118,101,32] c.From) λu=>gI (cat' u [32]) λc2=>gI (cat' c2 c.To) λc3=>gI (cat' c3 [32,105,102,32]) λc4=>gI (Feq c.When 0) λt=>gI (cat' c4 t) λc5=>gI (cat' c5 [10]) λv=>gI (Fcv a v) λ⟨_,_,a2⟩=>k (IntKind.i64.wrap (i+1),a2)) (some a))
  (λ(i:Nat) (s:List Int)=>((i:Int),s)) r.Moves (λi s=>s=nums (A++cat lnM (r.Moves.take i))) (λq=>q=nums (A++cat lnM r.Moves)) (by omega)
  (λk i s p b hi d=>by
   subst d;have C:=o i (Nat.le_of_lt hi);have l:=mG b;obtain⟨n,_,_⟩:=g.mg p l;have F:=e p l;have G:=when_len n;refine⟨nums (A++cat lnM (r.Moves.take (i+1))),rfl,?_⟩;dsimp only;rw [xJ hi,zI,bD b,zA,cat_ok (by simp only [List.length_cons,List.length_nil];omega),zA,cat_ok (by simp only [List.length_append,List.length_cons,List.length_nil];omega),zA,cat_ok (by simp only [List.length_append,List.length_cons,List.length_nil];omega),zA,cat_ok (by simp only [List.length_append,List.length_cons,List.length_nil];omega),zA,(condText_ok n).1,zA,cat_ok (by simp only [List.length_append,List.length_cons,List.length_nil];omega),zA,cat_ok (by simp only [List.length_append,List.length_cons,List.length_nil];omega),zA,
    show [109,111,118,101,32]++p.From++[32]++p.To++[32,105,102,32]++tx p.When 0++[10]=lnM p from rfl,write_ok _ _ (by rw [List.length_append];omega),zA,dM hi (by omega),take_snoc b,cat_snoc,List.append_assoc])
  (λk s d=>by
   subst d;dsimp only;rw [xI,zH,List.take_length];exact⟨_,rfl,rfl⟩) (nums A) (by unfold cat;simp)
 exact(show(fG _ ((0:Int),nums A):Option (List Int))=_ from f).trans (by rw [j])
theorem print2r (A:Str)(z:A.length<=20000000):F_ref6_Print_L2 r (nums A,0)=some (nums (A++cat lnM r.Moves)):=by
 have B:=g.m;have e:=(lens g 0).2.1;have o: ∀i:Nat,i<=r.Moves.length->(cat lnM (r.Moves.take i)).length<=10000000:=λi hi=>by
  have f:=cat_take lnM 50000 (r.Moves.take i) λx b=>e x (List.mem_of_mem_take b)
  have j:(r.Moves.take i).length*50000<=60*50000:=Nat.mul_le_mul_right _ (by rw [List.length_take];omega);omega
 unfold F_ref6_Print_L2;obtain⟨q,f,j⟩:=qF (body:=λk (s:List Int×Int)=>match s with |⟨a,i⟩=>gV (decide (i<(r.Moves.length:Int))) (gI (at' r.Moves i) λc=>gI (cat' [109,111,118,101,32] c.From) λu=>gI (cat' u [32]) λc2=>gI (cat' c2 c.To) λc3=>gI (cat' c3 [32,105,102,32]) λc4=>gI (F_ref6_shown c.When 0) λt=>gI (cat' c4 t) λc5=>gI (cat' c5 [10]) λv=>gI (app' 1 a (nums v)) λa2=>k (a2,IntKind.i64.wrap (i+1))) (some a))
  (λ(i:Nat) (s:List Int)=>(s,(i:Int))) r.Moves (λi s=>s=nums (A++cat lnM (r.Moves.take i))) (λq=>q=nums (A++cat lnM r.Moves)) (by omega)
  (λk i s p b hi d=>by
   subst d;have C:=o i (Nat.le_of_lt hi);have l:=mG b;obtain⟨n,_,_⟩:=g.mg p l;have F:=e p l;have G:=when_len n;refine⟨nums (A++cat lnM (r.Moves.take (i+1))),rfl,?_⟩;dsimp only;rw [xJ hi,zI,bD b,zA,cat_ok (by simp only [List.length_cons,List.length_nil];omega),zA,cat_ok (by simp only [List.length_append,List.length_cons,List.length_nil];omega),zA,cat_ok (by simp only [List.length_append,List.length_cons,List.length_nil];omega),zA,cat_ok (by simp only [List.length_append,List.length_cons,List.length_nil];omega),zA,(condText_ok n).2,zA,cat_ok (by simp only [List.length_append,List.length_cons,List.length_nil];omega),zA,cat_ok (by simp only [List.length_append,List.length_cons,List.length_nil];omega),zA,
    show [109,111,118,101,32]++p.From++[32]++p.To++[32,105,102,32]++tx p.When 0++[10]=lnM p from rfl,app_ok _ _ (by rw [List.length_append];omega),zA,dM hi (by omega),take_snoc b,cat_snoc,List.append_assoc])
  (λk s d=>by
   subst d;dsimp only;rw [xI,zH,List.take_length];exact⟨_,rfl,rfl⟩) (nums A) (by unfold cat;simp)
 exact(show(fG _ (nums A,(0:Int)):Option (List Int))=_ from f).trans (by rw [j])
theorem print3p (A:Str)(B:A.length<=20000000):Fgl r (r.Rules.length:Int) (0,nums A)=some (nums (A++cat lnR r.Rules)):=by
 have C:=g.l;have d:=(lens g 0).2.2;have u: ∀i:Nat,i<=r.Rules.length->(cat lnR (r.Rules.take i)).length<=10000000:=λi hi=>by
  have e:=cat_take lnR 50000 (r.Rules.take i) λx b=>d x (List.mem_of_mem_take b)
  have f:(r.Rules.take i).length*50000<=60*50000:=Nat.mul_le_mul_right _ (by rw [List.length_take];omega);omega
 unfold Fgl;obtain⟨q,e,f⟩:=qF (body:=λk (s:Int×List Int)=>match s with |⟨i,a⟩=>gV (decide (i<(r.Rules.length:Int))) (gI (at' r.Rules i) λj=>gI (cat' [114,117,108,101,32] j.Name) λv=>gI (cat' v [32,105,102,32]) λc4=>gI (Feq j.When 0) λt=>gI (cat' c4 t) λc5=>gI (cat' c5 [10]) λz=>gI (Fcv a z) λ⟨_,_,a2⟩=>k (IntKind.i64.wrap (i+1),a2)) (some a))
  (λ(i:Nat) (s:List Int)=>((i:Int),s)) r.Rules (λi s=>s=nums (A++cat lnR (r.Rules.take i))) (λq=>q=nums (A++cat lnR r.Rules)) (by omega)
  (λk i s p b hi c=>by
   subst c;have D:=u i (Nat.le_of_lt hi);have n:=mG b;obtain⟨o,_⟩:=g.lg p n;have F:=d p n;have G:=when_len o;refine⟨nums (A++cat lnR (r.Rules.take (i+1))),rfl,?_⟩;dsimp only;rw [xJ hi,zI,bD b,zA,cat_ok (by simp only [List.length_cons,List.length_nil];omega),zA,cat_ok (by simp only [List.length_append,List.length_cons,List.length_nil];omega),zA,(condText_ok o).1,zA,cat_ok (by simp only [List.length_append,List.length_cons,List.length_nil];omega),zA,cat_ok (by simp only [List.length_append,List.length_cons,List.length_nil];omega),zA,
    show [114,117,108,101,32]++p.Name++[32,105,102,32]++tx p.When 0++[10]=lnR p from rfl,write_ok _ _ (by rw [List.length_append];omega),zA,dM hi (by omega),take_snoc b,cat_snoc,List.append_assoc])
  (λk s c=>by
   subst c;dsimp only;rw [xI,zH,List.take_length];exact⟨_,rfl,rfl⟩) (nums A) (by unfold cat;simp)
 exact(show(fG _ ((0:Int),nums A):Option (List Int))=_ from e).trans (by rw [f])
theorem print3r (A:Str)(C:A.length<=20000000):F_ref6_Print_L3 r (nums A,0)=some (nums (A++cat lnR r.Rules)):=by
 have D:=g.l;have d:=(lens g 0).2.2;have o: ∀i:Nat,i<=r.Rules.length->(cat lnR (r.Rules.take i)).length<=10000000:=λi hi=>by
  have e:=cat_take lnR 50000 (r.Rules.take i) λx b=>d x (List.mem_of_mem_take b)
  have f:(r.Rules.take i).length*50000<=60*50000:=Nat.mul_le_mul_right _ (by rw [List.length_take];omega);omega
 unfold F_ref6_Print_L3;obtain⟨q,e,f⟩:=qF (body:=λk (s:List Int×Int)=>match s with |⟨a,i⟩=>gV (decide (i<(r.Rules.length:Int))) (gI (at' r.Rules i) λu=>gI (cat' [114,117,108,101,32] u.Name) λv=>gI (cat' v [32,105,102,32]) λc4=>gI (at' r.Rules i) λz=>gI (F_ref6_shown z.When 0) λt=>gI (cat' c4 t) λc5=>gI (cat' c5 [10]) λB=>gI (app' 1 a (nums B)) λa2=>k (a2,IntKind.i64.wrap (i+1))) (some a))
  (λ(i:Nat) (s:List Int)=>(s,(i:Int))) r.Rules (λi s=>s=nums (A++cat lnR (r.Rules.take i))) (λq=>q=nums (A++cat lnR r.Rules)) (by omega)
  (λk i s p b hi c=>by
   subst c;have E:=o i (Nat.le_of_lt hi);have j:=mG b;obtain⟨n,_⟩:=g.lg p j;have G:=d p j;have H:=when_len n;refine⟨nums (A++cat lnR (r.Rules.take (i+1))),rfl,?_⟩;dsimp only;rw [xJ hi,zI,bD b,zA,cat_ok (by simp only [List.length_cons,List.length_nil];omega),zA,cat_ok (by simp only [List.length_append,List.length_cons,List.length_nil];omega),zA,zA,(condText_ok n).2,zA,cat_ok (by simp only [List.length_append,List.length_cons,List.length_nil];omega),zA,cat_ok (by simp only [List.length_append,List.length_cons,List.length_nil];omega),zA,
    show [114,117,108,101,32]++p.Name++[32,105,102,32]++tx p.When 0++[10]=lnR p from rfl,app_ok _ _ (by rw [List.length_append];omega),zA,dM hi (by omega),take_snoc b,cat_snoc,List.append_assoc])
  (λk s c=>by
   subst c;dsimp only;rw [xI,zH,List.take_length];exact⟨_,rfl,rfl⟩) (nums A) (by unfold cat;simp)
 exact(show(fG _ (nums A,(0:Int)):Option (List Int))=_ from e).trans (by rw [f])
end
theorem Print_eq (r:Rules) (a:okR r): ∃t e,Ff3 r=some (t,e)/\F_ref6_Print r=some (t,e)/\(e=0->t=docT r/\t.length<=200000/\chk r=some 0):=by
 obtain⟨e,b⟩:=chk_some r;unfold Ff3 F_ref6_Print;simp only [zS];rw [Check_eq r a,rCheck_eq r a,b,zA,zA]
 by_cases z:e=0
 ·subst z;have g:=chk_good a b;have l1:=cat_take lnP 50000 r.Phases (lens g 0).1;have l2:=cat_take lnM 50000 r.Moves (lens g 0).2.1;have f:r.Phases.length*50000<=20*50000:=Nat.mul_le_mul_right _ g.p;have p2:r.Moves.length*50000<=60*50000:=Nat.mul_le_mul_right _ g.m;rw [qD (by decide),zH,zH,(print1 g).1,(print1 g).2,zA,zA,print2p g _ (by omega),print2r g _ (by omega),zA,zA,print3p g _ (by rw [List.length_append];omega),print3r g _ (by rw [List.length_append];omega),zA,zA];have d:cat lnP r.Phases++cat lnM r.Moves++cat lnR r.Rules=docT r:=rfl;rw [d];unfold Ff0 Fev;simp only [zS,zA];rw [kG,str_nm]
  by_cases c:200000<((docT r).length:Int)
  ·rw [dT c,zI,zI];exact⟨_,_,rfl,rfl,λz=>absurd z (by decide)⟩
  ·rw [qD c,zH,zH,if_pos rfl,zA];exact⟨_,_,rfl,rfl,λ_=>⟨rfl,by omega,by first |trivial|rfl⟩⟩
 ·rw [dT z,zI,zI];exact⟨_,_,rfl,rfl,λy=>absurd y z⟩
def tkP (p:Str):List AT:=[(1,[112,104,97,115,101],0),(2,p,0)]
def tkM (m:fQ):List AT:=(1,[109,111,118,101],0)::(2,m.From,0)::(2,m.To,0)::(1,[105,102],0)::tkc m.When 0
def tkR (x:dJ):List AT:=(1,[114,117,108,101],0)::(2,x.Name,0)::(1,[105,102],0)::tkc x.When 0
theorem aLe (r:Str):sepB (10::r):=Or.inr ⟨10,r,rfl,rfl⟩
theorem lx_cat {a:Type}(f:a->Str)(t:a->List AT): ∀(l:List a) (r:Str),(∀x∈l,∀r,lx (f x++r)=t x++lx r)->lx (cat f l++r)=(l.map t).flatten++lx r
 | [],r,_=>rfl
 |x::l,r,h=>by
  have e:cat f (x::l)++r=f x++(cat f l++r):=by unfold cat;simp
  rw [e,h x List.mem_cons_self,lx_cat f t l r λy b=>h y (List.mem_cons_of_mem _ b),List.map_cons,List.flatten_cons,List.append_assoc]
theorem lx_doc {r:Rules}(g:Gr' r)(b:Gn r):lx (docT r)=(r.Phases.map tkP).flatten++(r.Moves.map tkM).flatten++(r.Rules.map tkR).flatten:=by
 have d: ∀x∈r.Phases,∀s,lx (lnP x++s)=tkP x++lx s:=λx a s=>by
  unfold lnP;simp only [List.append_assoc,List.cons_append,List.nil_append];refine(lx_word (w:=[112,104,97,115,101]) (by decide) (32::(x++(10::s))) (sep_sp _)).trans ?_;rw [lx_sp _ (Or.inl rfl),lx_name (b.p x a) _ (aLe _),lx_sp _ (Or.inr rfl)];rfl
 have f: ∀x∈r.Moves,∀s,lx (lnM x++s)=tkM x++lx s:=λx a s=>by
  have c:=(g.mg x a).1;unfold lnM;simp only [List.append_assoc,List.cons_append,List.nil_append];refine(lx_word (w:=[109,111,118,101]) (by decide) (32::(x.From++(32::(x.To++(32::105::102::32::(tx x.When 0++(10::s))))))) (sep_sp _)).trans ?_;rw [lx_sp _ (Or.inl rfl),lx_name (b.m x a).1 _ (sep_sp _),lx_sp _ (Or.inl rfl),lx_name (b.m x a).2 _ (sep_sp _),lx_sp _ (Or.inl rfl),
   show lx (105::102::32::(tx x.When 0++(10::s)))=_ from lx_word (w:=[105,102]) (by decide) (32::(tx x.When 0++(10::s))) (sep_sp _),lx_sp _ (Or.inl rfl),lx_tx _ _ 0 _ (Nat.le_refl _) c (aLe _),lx_sp _ (Or.inr rfl)]
  rfl
 have i: ∀x∈r.Rules,∀s,lx (lnR x++s)=tkR x++lx s:=λx a s=>by
  have c:=(g.lg x a).1;unfold lnR;simp only [List.append_assoc,List.cons_append,List.nil_append];refine(lx_word (w:=[114,117,108,101]) (by decide) (32::(x.Name++(32::105::102::32::(tx x.When 0++(10::s))))) (sep_sp _)).trans ?_;rw [lx_sp _ (Or.inl rfl),lx_name (b.l x a) _ (sep_sp _),lx_sp _ (Or.inl rfl),
   show lx (105::102::32::(tx x.When 0++(10::s)))=_ from lx_word (w:=[105,102]) (by decide) (32::(tx x.When 0++(10::s))) (sep_sp _),lx_sp _ (Or.inl rfl),lx_tx _ _ 0 _ (Nat.le_refl _) c (aLe _),lx_sp _ (Or.inr rfl)]
  rfl
 have e:docT r=cat lnP r.Phases++(cat lnM r.Moves++(cat lnR r.Rules++[])):=by unfold docT;simp
 rw [e,lx_cat _ _ _ _ d,lx_cat _ _ _ _ f,lx_cat _ _ _ _ i,lx_nil,List.append_nil,List.append_assoc]
section
variable {L:List Tk} (hL:L.length<=2000000)
include hL
theorem rd1: ∀(l acc:List Str) (y:Rf) (r:List AT) (n:Nat),r≠[]->NW [112,104,97,115,101] r->acc.length+l.length<=1000->l.length<n->At L y ((l.map tkP).flatten++r)->
  ∃b,eU b1R n (y.l,y.at_,y.pos,y.e,acc)=some (b.l,b.at_,b.pos,b.e,acc++l)/\At L b r
 | [],acc,y,r,n,d,k,_,f,a=>by
  obtain⟨n,rfl⟩: ∃j,n=j+1:=⟨n-1,by simp at f;omega⟩;refine⟨y,?_,a⟩;show b1R (eU b1R n) (y.l,y.at_,y.pos,y.e,acc)=_;have i:Fac y [112,104,97,115,101]=some false:=at_nw a d k;unfold b1R;dsimp only;rw [dT (at_e a),zI,yX,i,zA,zA,zH,List.append_nil]
 |c::l,acc,y,r,n,d,k,p,f,a=>by
  obtain⟨n,rfl⟩: ∃j,n=j+1:=⟨n-1,by simp at f;omega⟩;rw [List.map_cons,List.flatten_cons,List.append_assoc]at a;have ne:(l.map tkP).flatten++r≠[]:=λe=>d (List.append_eq_nil_iff.1 e).2
  have a:At L y ((1,[112,104,97,115,101],0)::(2,c,0)::((l.map tkP).flatten++r)):=a;have i:=at_is a [112,104,97,115,101];obtain⟨_,q,s⟩:=at_next hL a (by intro e;cases e);obtain⟨t2,u,v,s2,a2⟩:=at_take hL s ne (K:=2) rfl;obtain⟨-,u2,-⟩:=stp_k s2;rw [List.length_cons]at p f;obtain⟨x,o,a3⟩:=rd1 l (acc++[c]) u r n d k (by rw [List.length_append,List.length_singleton];omega) (by omega) a2;refine⟨x,?_,a3⟩;show b1R (eU b1R n) (y.l,y.at_,y.pos,y.e,acc)=_
  revert o
  generalize eU b1R n=K;intro o;unfold b1R;dsimp only;rw [dT (at_e a),zI,yX,i,zA,zA];show gI (Fad y) _=_;rw [q,zA,yX,v,zA];dsimp only;rw [u2,apc (by decide) (by omega),zA,o,List.append_assoc];rfl
theorem rd2: ∀(l acc:List fQ) (y:Rf) (r:List AT) (n:Nat),r≠[]->NW [109,111,118,101] r->NW [97,110,100] r->NW [111,114] r->(∀m∈l,Gt m.When)->acc.length+l.length<=1000->l.length<n->At L y ((l.map tkM).flatten++r)->
  ∃b,eU b2R n (y.l,y.at_,y.pos,y.e,acc)=some (b.l,b.at_,b.pos,b.e,acc++l)/\At L b r
 | [],acc,y,r,n,o,s,_,_,_,_,p,a=>by
  obtain⟨n,rfl⟩: ∃j,n=j+1:=⟨n-1,by simp at p;omega⟩;refine⟨y,?_,a⟩;show b2R (eU b2R n) (y.l,y.at_,y.pos,y.e,acc)=_;have i:Fac y [109,111,118,101]=some false:=at_nw a o s;unfold b2R;dsimp only;rw [dT (at_e a),zI,yX,i,zA,zA,zH,List.append_nil]
 |c::l,acc,y,r,n,o,s,x,no,A,C,p,a=>by
  obtain⟨n,rfl⟩: ∃j,n=j+1:=⟨n-1,by simp at p;omega⟩;rw [List.map_cons,List.flatten_cons,List.append_assoc]at a;have ne:(l.map tkM).flatten++r≠[]:=λe=>o (List.append_eq_nil_iff.1 e).2
  have f: ∀w:Str,w≠[109,111,118,101]->NW w r->NW w ((l.map tkM).flatten++r):=λw D h=>by
   cases l with
   |nil=>exact h
   |cons _ l=>
    intro t _ e _;have:t=(1,[109,111,118,101],0):=by injection e with e1 _;exact e1.symm
    subst this;exact λz=>D z.symm
  have a:At L y ((1,[109,111,118,101],0)::(2,c.From,0)::(2,c.To,0)::(1,[105,102],0)::(tkc c.When 0++((l.map tkM).flatten++r))):=a;have u: ∀(t:AT) (l:List AT),t::l≠[]:=λt l e=>by cases e
  have i:=at_is a [109,111,118,101];obtain⟨_,E,F⟩:=at_next hL a (u _ _);obtain⟨t2,_,G,s2,a2⟩:=at_take hL F (u _ _) (K:=2) rfl;obtain⟨-,u2,-⟩:=stp_k s2;obtain⟨t3,H,I,J,a3⟩:=at_take hL a2 (u _ _) (K:=2) rfl;obtain⟨-,u3,-⟩:=stp_k J;obtain⟨B,M,a4⟩:=at_want hL a3 (λe=>ne (List.append_eq_nil_iff.1 e).2) (Or.inl rfl);obtain⟨k,N,a5⟩:=read_cond hL (A c List.mem_cons_self) B _ ne (f _ (by decide) x) (f _ (by decide) no) a4;rw [List.length_cons]at C p;obtain⟨O,v,P⟩:=rd2 l (acc++[c]) k r n o s x no (λm R=>A m (List.mem_cons_of_mem _ R)) (by rw [List.length_append,List.length_singleton];omega) (by omega) a5;refine⟨O,?_,P⟩;show b2R (eU b2R n) (y.l,y.at_,y.pos,y.e,acc)=_
  revert v
  generalize eU b2R n=K;intro v;unfold b2R;dsimp only;rw [dT (at_e a),zI,yX,i,zA,zA];show gI (Fad y) _=_;rw [E,zA,yX,G,zA];dsimp only;rw [yX,I,zA];dsimp only;rw [yX,show Faj H [105,102]=some B from M,zA,yX,N,zA];dsimp only;rw [u2,u3,apc (by decide) (by omega),zA];show K (k.l,k.at_,k.pos,k.e,acc++[c])=_;rw [v,List.append_assoc];rfl
theorem rd3: ∀(l acc:List dJ) (y:Rf) (r:List AT) (n:Nat),r≠[]->NW [114,117,108,101] r->NW [97,110,100] r->NW [111,114] r->(∀m∈l,Gt m.When)->acc.length+l.length<=1000->l.length<n->At L y ((l.map tkR).flatten++r)->
  ∃b,eU b3R n (y.l,y.at_,y.pos,y.e,acc)=some (b.l,b.at_,b.pos,b.e,acc++l)/\At L b r
 | [],acc,y,r,n,o,s,_,_,_,_,p,a=>by
  obtain⟨n,rfl⟩: ∃j,n=j+1:=⟨n-1,by simp at p;omega⟩;refine⟨y,?_,a⟩;show b3R (eU b3R n) (y.l,y.at_,y.pos,y.e,acc)=_;have i:Fac y [114,117,108,101]=some false:=at_nw a o s;unfold b3R;dsimp only;rw [dT (at_e a),zI,yX,i,zA,zA,zH,List.append_nil]
 |c::l,acc,y,r,n,o,s,v,no,x,C,p,a=>by
  obtain⟨n,rfl⟩: ∃j,n=j+1:=⟨n-1,by simp at p;omega⟩;rw [List.map_cons,List.flatten_cons,List.append_assoc]at a;have ne:(l.map tkR).flatten++r≠[]:=λe=>o (List.append_eq_nil_iff.1 e).2
  have f: ∀w:Str,w≠[114,117,108,101]->NW w r->NW w ((l.map tkR).flatten++r):=λw D h=>by
   cases l with
   |nil=>exact h
   |cons _ l=>
    intro t _ e _;have:t=(1,[114,117,108,101],0):=by injection e with e1 _;exact e1.symm
    subst this;exact λz=>D z.symm
  have a:At L y ((1,[114,117,108,101],0)::(2,c.Name,0)::(1,[105,102],0)::(tkc c.When 0++((l.map tkR).flatten++r))):=a;have A: ∀(t:AT) (l:List AT),t::l≠[]:=λt l e=>by cases e
  have i:=at_is a [114,117,108,101];obtain⟨_,E,F⟩:=at_next hL a (A _ _);obtain⟨t2,G,H,s2,a2⟩:=at_take hL F (A _ _) (K:=2) rfl;obtain⟨-,u2,-⟩:=stp_k s2;obtain⟨B,I,a4⟩:=at_want hL a2 (λe=>ne (List.append_eq_nil_iff.1 e).2) (Or.inl rfl);obtain⟨k,J,a5⟩:=read_cond hL (x c List.mem_cons_self) B _ ne (f _ (by decide) v) (f _ (by decide) no) a4;rw [List.length_cons]at C p;obtain⟨M,u,N⟩:=rd3 l (acc++[c]) k r n o s v no (λm O=>x m (List.mem_cons_of_mem _ O)) (by rw [List.length_append,List.length_singleton];omega) (by omega) a5;refine⟨M,?_,N⟩;show b3R (eU b3R n) (y.l,y.at_,y.pos,y.e,acc)=_
  revert u
  generalize eU b3R n=K;intro u;unfold b3R;dsimp only;rw [dT (at_e a),zI,yX,i,zA,zA];show gI (Fad y) _=_;rw [E,zA,yX,H,zA];dsimp only;rw [yX,show Faj G [105,102]=some B from I,zA,yX,J,zA];dsimp only;rw [u2,apc (by decide) (by omega),zA];show K (k.l,k.at_,k.pos,k.e,acc++[c])=_;rw [u,List.append_assoc];rfl
end
theorem read_back {r:Rules}(A:okR r)(n:chk r=some 0)(N:(docT r).length<=200000):Fcj (docT r)=some (r,0,0):=by
 have g:=chk_good A n;have B:=chk_names n;have O:=g.p;have P:=g.m;have R:=g.l;obtain⟨j,o,_⟩:=FU_j;generalize hL0:qQ (docT r) 0=L;have hL:L.length<=2000000:=by rw [<-hL0];have:=aKj (docT r) 0;omega
 have f:L.map stp=(r.Phases.map tkP).flatten++((r.Moves.map tkM).flatten++((r.Rules.map tkR).flatten++[(0,[],0)])):=by
  rw [<-hL0,lexA_lx,lx_doc g B];simp [List.append_assoc]
 have a0:At L (gG.mk L 0 0 0) ((r.Phases.map tkP).flatten++((r.Moves.map tkM).flatten++((r.Rules.map tkR).flatten++[(0,[],0)]))):=⟨0,rfl,rfl,rfl,by rw [List.drop_zero];exact f⟩;have b: ∀w:Str,NW w [((0:Int),([]:Str),(0:Int))]:=λw t l e h=>by
  injection e with e _
  subst e;exact absurd h (by decide)
 have c: ∀w:Str,w≠[114,117,108,101]->NW w ((r.Rules.map tkR).flatten++[(0,[],0)]):=λw s=>by
  cases r.Rules with
  |nil=>exact b w
  |cons d l=>
   intro t q e _;have:t=(1,[114,117,108,101],0):=by injection e with e1 _;exact e1.symm
   subst this;exact λz=>s z.symm
 have u: ∀w:Str,w≠[109,111,118,101]->w≠[114,117,108,101]->NW w ((r.Moves.map tkM).flatten++((r.Rules.map tkR).flatten++[(0,[],0)])):=λw s v=>by
  have C:=c w v
  cases r.Moves with
  |nil=>exact C
  |cons d l=>
   intro t q e _;have:t=(1,[109,111,118,101],0):=by injection e with e1 _;exact e1.symm
   subst this;exact λz=>s z.symm
 have i:(r.Rules.map tkR).flatten++[((0:Int),([]:Str),(0:Int))]≠[]:=λe=>by have:=(List.append_eq_nil_iff.1 e).2;cases this
 have x:(r.Moves.map tkM).flatten++((r.Rules.map tkR).flatten++[((0:Int),([]:Str),(0:Int))])≠[]:=λe=>i (List.append_eq_nil_iff.1 e).2
 obtain⟨D,E,F⟩:=rd1 hL r.Phases [] (gG.mk L 0 0 0) _ (j+1) x (u _ (by decide) (by decide)) (by simp only [List.length_nil];omega) (by omega) a0;obtain⟨G,H,a2⟩:=rd2 hL r.Moves [] D _ (j+1) i (c _ (by decide)) (c _ (by decide)) (c _ (by decide)) (λm f=>(g.mg m f).1) (by simp only [List.length_nil];omega) (by omega) F;obtain⟨_,I,a3⟩:=rd3 hL r.Rules [] G _ (j+1) (by intro e;cases e) (b _) (b _) (b _) (λm f=>(g.lg m f).1) (by simp only [List.length_nil];omega) (by omega) a2;obtain⟨_,J,K⟩:=at_now a3;obtain⟨M,-,-⟩:=stp_k K;rw [rRead_eq,qD (by omega),zH,tokens_eq _ (by omega),zA,hL0,L1R];unfold fG;rw [o,show eU b1R (j+1) (L,0,0,0,[])=_ from E,zA];unfold fin1;dsimp only;rw [L2R];unfold fG;rw [o,H,zA];unfold fin2;dsimp only;rw [L3R];unfold fG;rw [o,I,zA];unfold fin3;dsimp only;rw [yX,J,zA,qD (λz=>z M),zH,zA];dsimp only;rw [qD (λz=>z (at_e a3)),zH,List.nil_append,List.nil_append,List.nil_append];show(gI (Fbh r) λa=>gV (decide (a≠0)) (some (Rules.mk [] [] [],0,a)) (some (r,0,0)))=_;rw [rCheck_eq r A,n,zA,qD (by decide),zH]
def okCond (c:Cond):Prop:=okC c
theorem okCond_mk {a0:Int}{b a2:Str}{a3 a4 a5:Int}{a:List Cond}(d:i64 a0)(e:okS b)(f:okS a2)(i:i64 a3)(j:i64 a4)(k:i64 a5)(c:a.length<=9223372036854775807/\ ∀x∈a,okCond x):okCond ⟨a0,b,a2,a3,a4,a5,a⟩:=
 (kR _).2 ⟨⟨d,e,f,i,j,k⟩,c.1,(pX _).2 c.2⟩
def okMoveT (x:fQ):Prop:=okS x.From/\okS x.To/\okCond x.When
def aKq (x:dJ):Prop:=okS x.Name/\okCond x.When
def aMe (x:Rules):Prop:=okL (λx=>okS x) x.Phases/\okL (λx=>okMoveT x) x.Moves/\okL (λx=>aKq x) x.Rules
theorem law_Print (r:Rules) (a:aMe r):F_law6_EventPrintMatchesSpec r=some true:=by
 have a:okR r:=a;obtain⟨t,e,f,p2,i⟩:=Print_eq r a;unfold F_law6_EventPrintMatchesSpec;rw [f,zA];dsimp only;rw [p2,zA];simp only [zS];rw [qD (λz=>z rfl),zH,qD (λz=>z rfl),zA,zH];by_cases z:e=0;obtain⟨c,j,d⟩:=i z;have rb:=read_back a d (by rw [<-c];exact j);obtain⟨_,_,_,k,b,_⟩:=Read_eq (docT r);rw [rb]at b;have b:=oI b;obtain⟨_,l⟩:=told_ex (chk_good a d).br 0 0;rw [dT z,zI,c,k,<-b,zA];dsimp only;rw [l,zA,zA,qD (λz=>z rfl),zA,zH,aJb];rfl;rw [qD z,zH,zA,zH,aJb];rfl
end Go.Lf
