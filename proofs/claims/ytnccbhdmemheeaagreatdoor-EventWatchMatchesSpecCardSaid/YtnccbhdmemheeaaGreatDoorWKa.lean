/- Laws that the claim stands on; no condition beyond those stated. -/
import Derived.Test.YtnccbhdmemheeaaGreatDoorTEb
namespace Go.Lf
open Go.OB
mutual
def kpN:Nd->Nat
 | .constant _=>0
 | .number _ _ _=>0
 | .pair _ _ _ _ _=>0
 | .steady _ _ _ last=>last.length
 | .phase _=>0
 | .rule _=>0
 | .not k=>kpN k
 | .group ks _=>kpL ks
 | .count k _ _ last _=>last.length+kpN k
 | .since a b _ g=>g.toNat+kpN a+kpN b
 | .rises k _ g=>g.toNat+kpN k
def kpL:List Nd->Nat
 | []=>0
 |k::ks=>kpN k+kpL ks
end
theorem aSk: ∀(a b:List Nd),kpL (a++b)=kpL a+kpL b
 | [],b=>by rw [kpL,List.nil_append,Nat.zero_add]
 |k::a,b=>by rw [List.cons_append,kpL,kpL,aSk a b];omega
theorem aZu: ∀{ks:List Nd}{k:Nd},k∈ks->kpN k<=kpL ks
 |a::ks,k,h=>by
  rw [kpL];rcases List.mem_cons.1 h with rfl|h
  ·omega
  ·have:=aZu h;omega
theorem one_eq (b:Bool):Fbd b=some ((b.toNat:Nat):Int):=by cases b<;>rfl
theorem aEb {a b:Nat}(h:a+b<=1000000000):IntKind.i64.wrap ((a:Int)+(b:Int))=((a+b:Nat):Int):=by
 rw [wrap_i64 (by omega) (by omega)];omega
theorem kpL_loop {rf:Nd->Option Int}{ks:List Nd} (d:ks.length<=1000000) (h: ∀k∈ks,rf k=some ((kpN k:Nat):Int)) (j:kpL ks<=1000000000):Fdp rf ks (ks.length:Int) (0,0)=some ((kpL ks:Nat):Int):=by
 unfold Fdp;refine dV (λ(i:Nat)=>(((kpL (ks.take i):Nat):Int),(i:Int))) ks (some ((kpL ks:Nat):Int)) (by omega) ?_ ?_
 ·intro c i x a hi;have hm:=qS a;have e:kpL (ks.take (i+1))=kpL (ks.take i)+kpN x:=by rw [jE a,aSk,kpL,kpL];omega
  have b:kpL (ks.take (i+1))<=kpL ks:=by
   have:=aSk (ks.take (i+1)) (ks.drop (i+1));rw [List.take_append_drop]at this;omega
  simp only [zI];rw [yM hi,zU,yR a,zC,h x hm,zC,fQ hi (by omega),aEb (by omega),e]
 ·intro c;simp only [zI];rw [yN,zQ,List.take_length]
theorem kept_B {T P R n:Nat}{rf:Nd->Option Int}(e: ∀k,dpN k<n->wfN T P R k->kpN k<=1000000000->rf k=some ((kpN k:Nat):Int))(k:Nd)(h:dpN k<n+1)(i:wfN T P R k)(d:kpN k<=1000000000):Fd8 rf k=some ((kpN k:Nat):Int):=by
 cases k with
 |constant t=>rfl
 |number tr op k=>rfl
 |pair a b _ _ op=>rfl
 |steady tr k fr last=>rfl
 |phase _=>rfl
 |rule r=>rfl
 |not k=>
  rw [dpN]at h;rw [kpN]at d⊢;show gB (rf k) _=_;rw [e k (by omega) i d];rfl
 |group ks _=>
  rw [dpN]at h;rw [kpN]at d⊢;obtain⟨j,o⟩:=i;show gB (gJ (ks.length:Int) λx=>Fdp rf ks x (0,0)) _=_;simp only [zI];rw [kpL_loop o (λk hm=>e k (by have:=aGg hm;omega) (aBh.1 j k hm) (by have:=aZu hm;omega)) d];rfl
 |count k _ fr last _=>
  rw [dpN]at h;rw [kpN]at d⊢;obtain⟨j,o,w,_,_,_⟩:=i;show gJ (last.length:Int) (λx=>gB (rf k) λy=>gJ (IntKind.i64.wrap (x+y)) λz=>some z)=_;simp only [zI];rw [e k (by omega) j (by omega),zC,aEb d]
 |since a b l g=>
  rw [dpN]at h;rw [kpN]at d⊢;obtain⟨j,o,w⟩:=i;show gB (Fbd g) (λx=>gB (rf a) λy=>gJ (IntKind.i64.wrap (x+y)) λz=>gB (rf b) λu=>gJ (IntKind.i64.wrap (z+u)) λv=>some v)=_;simp only [zI];rw [one_eq,zC,e a (by omega) j (by omega),zC,e b (by omega) o (by omega),zC,aEb (by omega),aEb d]
 |rises k l g=>
  rw [dpN]at h;rw [kpN]at d⊢;show gB (Fbd g) (λx=>gB (rf k) λy=>gJ (IntKind.i64.wrap (x+y)) λz=>some z)=_;simp only [zI];rw [one_eq,zC,e k (by omega) i.1 (by omega),zC,aEb d]
theorem kept_R {T P R:Nat}: ∀(n:Nat) (k:Nd),dpN k<n->wfN T P R k->kpN k<=1000000000->Fdd n k=some ((kpN k:Nat):Int)
 |0,_,h,_,_=>by omega
 |n+1,k,h,a,b=>kept_B (λk hd a b=>kept_R n k hd a b) k h a b
theorem bBv {T P R:Nat}{k:Nd}(hd:dpN k<=1000000)(a:wfN T P R k)(b:kpN k<=1000000000):Fd1 k=some ((kpN k:Nat):Int):=
 kept_R FU k (by have:(1000000:Nat)<FU:=mM (by omega);omega) a b
def moK (k fr:Int):Nat:=if k=11\/k=12\/k=13\/k=5 then fr.toNat-1 else if k=14\/k=15 then 1 else 0
mutual
def moN:Cond->Nat
 |⟨k,_,_,_,_,fr,ks⟩=>moK k fr+pW ks
def pW:List Cond->Nat
 | []=>0
 |c::l=>moN c+pW l
end
theorem aZb (c:Cond):moN c=moK c.Kind c.Frames+pW c.Kids:=by cases c;rfl
theorem aKg: ∀(a b:List Cond),pW (a++b)=pW a+pW b
 | [],b=>by rw [pW,List.nil_append,Nat.zero_add]
 |k::a,b=>by rw [List.cons_append,pW,pW,aKg a b];omega
theorem bCd: ∀{l:List Cond},(∀x∈l,moN x<=4096*cN x)->pW l<=4096*cNs l
 | [],_=>by rw [pW];exact Nat.zero_le _
 |c::l,h=>by
  rw [pW,cNs];have b:=h c List.mem_cons_self;have d:=bCd λx a=>h x (List.mem_cons_of_mem _ a)
  omega
theorem moK_le {c:Cond}(g:Gt c):moK c.Kind c.Frames<=4096:=by
 have:=g.self.fr;unfold moK;split;omega;split<;>omega
theorem moN_le: ∀(n:Nat) (c:Cond),dN c<=n->Gt c->moN c<=4096*cN c
 |0,c,h,_=>by have:=aIm c;omega
 |n+1,c,h,g=>by
  have d:=moK_le g;have e:=bCd (l:=c.Kids) λx a=>moN_le n x (by obtain⟨_,b⟩:=List.getElem?_of_mem a;have:=(qF g.ok b).2.1;omega) (g.kid a)
  rw [aZb,wI];omega
theorem aYu {c:Cond}(g:Gt c):moN c<=819200:=by
 have a:=moN_le _ c (Nat.le_refl _) g;have:=g.n;omega
theorem most_loop {rf:Cond->Option Int}{c:Cond} (k:c.Kids.length<=200) (h: ∀x∈c.Kids,rf x=some ((moN x:Nat):Int)) (b:Nat) (n:b+pW c.Kids<=1000000000):Fey rf c ((b:Int),0)=some ((b+pW c.Kids:Nat):Int):=by
 unfold Fey;have d:((b:Int),(0:Int))=(λ(i:Nat)=>(((b+pW (c.Kids.take i):Nat):Int),(i:Int))) 0:=by
  show _=(((b+pW (c.Kids.take 0):Nat):Int),((0:Nat):Int));rw [List.take_zero,pW];rfl
 rw [d];refine dV (λ(i:Nat)=>(((b+pW (c.Kids.take i):Nat):Int),(i:Int))) c.Kids (some ((b+pW c.Kids:Nat):Int)) (by omega) ?_ ?_
 ·intro j i x a hi;have hm:=qS a;have e:pW (c.Kids.take (i+1))=pW (c.Kids.take i)+moN x:=by rw [jE a,aKg,pW,pW];omega
  have b:pW (c.Kids.take (i+1))<=pW c.Kids:=by
   have:=aKg (c.Kids.take (i+1)) (c.Kids.drop (i+1));rw [List.take_append_drop]at this;omega
  simp only [zI];rw [yM hi,zU,yR a,zC,h x hm,zC,fQ hi (by omega),aEb (by omega),e,Nat.add_assoc]
 ·intro j;simp only [zI];rw [yN,zQ,List.take_length]
theorem most_B {n:Nat}{rf:Cond->Option Int} (B: ∀x,dN x<n->Gt x->rf x=some ((moN x:Nat):Int)) (c:Cond) (h:dN c<n+1) (g:Gt c):Fcd rf c=some ((moN c:Nat):Int):=by
 have hd:=aYu g;have C:=aZb c;have D:=most_loop (rf:=rf) (c:=c) g.kids (λx A=>B x (by obtain⟨_,E⟩:=List.getElem?_of_mem A;have:=(qF g.ok E).2.1;omega) (g.kid A)) (moK c.Kind c.Frames) (by omega);unfold Fcd;have p:(gB (gJ (decide (c.Kind=11)) λe=>gQ e (some e) (gJ (decide (c.Kind=12)) λi=>gQ i (some i) (gJ (decide (c.Kind=13)) λk=>gQ k (some k) (gJ (decide (c.Kind=5)) λq=>some q)))) λs=>
   gQ s (gJ (IntKind.i64.wrap (c.Frames-1)) λu=>some u) (gB (gJ (decide (c.Kind=14)) λo=>gQ o (some o) (gJ (decide (c.Kind=15)) λw=>some w)) λy=>gQ y (some (1:Int)) (some 0)))=some ((moK c.Kind c.Frames:Nat):Int):=by
  have z:=g.gk.fr;have F:=g.self.fr;simp only [zI];have G:(gQ (decide (c.Kind=11)) (some (decide (c.Kind=11))) (gQ (decide (c.Kind=12)) (some (decide (c.Kind=12))) (gQ (decide (c.Kind=13)) (some (decide (c.Kind=13))) (some (decide (c.Kind=5))))))=some (decide (c.Kind=11\/c.Kind=12\/c.Kind=13\/c.Kind=5)):=by
   by_cases a:c.Kind=11
   ·simp [a,zU]
   ·by_cases b:c.Kind=12
    ·simp [b,zU,zQ]
    ·by_cases d:c.Kind=13
     ·simp [d,zU,zQ]
     ·simp [a,b,d,zQ]
  have H:(gQ (decide (c.Kind=14)) (some (decide (c.Kind=14))) (some (decide (c.Kind=15))))=some (decide (c.Kind=14\/c.Kind=15)):=by
   by_cases a:c.Kind=14
   ·simp [a,zU]
   ·simp [a,zQ]
  rw [G,zC,H,zC];unfold moK
  by_cases a:c.Kind=11\/c.Kind=12\/c.Kind=13\/c.Kind=5
  ·have:=z (by omega);rw [dT a,zU,if_pos a,wrap_i64 (by omega) (by omega)];exact congrArg some (by omega)
  ·rw [qD a,zQ,if_neg a]
   by_cases b:c.Kind=14\/c.Kind=15
   ·rw [dT b,zU,if_pos b];rfl
   ·rw [qD b,zQ,if_neg b];rfl
 rw [p,zC,D,zC,C]
theorem most_R: ∀(n:Nat) (c:Cond),dN c<n->Gt c->Fc3 n c=some ((moN c:Nat):Int)
 |0,_,h,_=>by omega
 |n+1,c,h,g=>most_B (λx hd g=>most_R n x hd g) c h g
theorem bCc {c:Cond}(g:Gt c):Fdx c=some ((moN c:Nat):Int):=
 most_R FU c (by have:(1000000:Nat)<FU:=mM (by omega);have:=g.d;omega) g
theorem kp0 (E:En)(t:Nat)(c:Int):kpN (ndA E t (.constant c))=0:=by rw [ndA,kpN]
theorem kp_g0 {E:En}{t:Nat}{M:Mk}{ks:List Cond}(h: ∀x∈ks,kpN (ndA E t (mkN M x))<=moN x):kpN (ndA E t ((ks.map (mkN M)).getD 0 (.constant 0)))<=pW ks:=by
 cases ks with
 |nil=>show kpN (ndA E t (.constant 0))<=_;rw [kp0];exact Nat.zero_le _
 |cons a l=>have:=h a List.mem_cons_self;rw [pW];show kpN (ndA E t (mkN M a))<=_;omega
theorem kp_g1 {E:En}{t:Nat}{M:Mk}{ks:List Cond}(h: ∀x∈ks,kpN (ndA E t (mkN M x))<=moN x):kpN (ndA E t ((ks.map (mkN M)).getD 0 (.constant 0)))+kpN (ndA E t ((ks.map (mkN M)).getD 1 (.constant 0)))<=pW ks:=by
 cases ks with
 |nil=>show kpN (ndA E t (.constant 0))+kpN (ndA E t (.constant 0))<=_;rw [kp0];exact Nat.zero_le _
 |cons a l=>
  have c:=h a List.mem_cons_self;have d:=kp_g0 (E:=E) (t:=t) (M:=M) (ks:=l) λx b=>h x (List.mem_cons_of_mem _ b)
  rw [pW];show kpN (ndA E t (mkN M a))+kpN (ndA E t ((l.map (mkN M)).getD 0 (.constant 0)))<=_;omega
theorem kp_all {E:En}{t:Nat}{M:Mk}: ∀{ks:List Cond},(∀x∈ks,kpN (ndA E t (mkN M x))<=moN x)->kpL ((ks.map (mkN M)).map (ndA E t))<=pW ks
 | [],_=>Nat.le_refl _
 |a::l,h=>by
  have c:=h a List.mem_cons_self;have d:=kp_all (E:=E) (t:=t) (M:=M) (ks:=l) λx b=>h x (List.mem_cons_of_mem _ b)
  rw [pW];show kpN (ndA E t (mkN M a))+kpL ((l.map (mkN M)).map (ndA E t))<=_;omega
theorem aUt (b:Bool):b.toNat<=1:=by cases b<;>decide
theorem kp_mk (E:En)(t:Nat)(M:Mk): ∀(n:Nat) (c:Cond),dN c<=n->Gt c->kpN (ndA E t (mkN M c))<=moN c
 |0,c,h,_=>by have:=aIm c;omega
 |n+1,c,h,g=>by
  have a: ∀x∈c.Kids,kpN (ndA E t (mkN M x))<=moN x:=λx b=>kp_mk E t M n x (by obtain⟨_,d⟩:=List.getElem?_of_mem b;have:=(qF g.ok d).2.1;omega) (g.kid b)
  have i:=kp_g0 a;have o:=kp_g1 a;have p:=kp_all a;have q: ∀k:Nat,kpN (ndA E t ((c.Kids.map (mkN M)).getD 0 (.constant 0)))<=k+pW c.Kids:=λk=>by omega
  rw [mP,aZb];unfold mkK moK;rcases kinds g.self.k1 with e|e|e|e|e|e|e|e|e|e|e|e|e|e|e<;>rw [e]<;>simp only [Int.reduceEq,if_true,if_false,or_false,or_self,or_true,decide_false,decide_true,or_true]
  ·rw [ndA,kpN];omega
  ·rw [ndA,kpN];omega
  ·rw [ndA,kpN];omega
  ·rw [ndA,kpN];omega
  ·rw [ndA,kpN,wH];omega
  ·rw [ndA,kpN];omega
  ·rw [ndA,kpN];omega
  ·rw [ndA,kpN];omega
  ·rw [ndA,kpN,aGm];omega
  ·rw [ndA,kpN,aGm];omega
  ·rw [ndA,kpN,wH];omega
  ·rw [ndA,kpN,wH];omega
  ·rw [ndA,kpN,wH];omega
  ·rw [ndA,kpN];have:=aUt (decide (0<t));omega
  ·rw [ndA,kpN];have:=aUt (decide (0<t));omega
theorem aXm: ∀{a b:List Nat},a.length=b.length->(∀(i:Nat) x y,a[i]? =some x->b[i]? =some y->x<=y)->a.sum<=b.sum
 | [],[],_,_=>Nat.le_refl _
 | [],_::_,h,_=>by cases h
 |_::_,[],h,_=>by cases h
 |x::a,y::b,h,q=>by
  have e:=q 0 x y rfl rfl;have j:=aXm (a:=a) (b:=b) (by simpa using h) λi u v c d=>q (i+1) u v (by simpa using c) (by simpa using d)
  rw [List.sum_cons,List.sum_cons];omega
theorem aWn {n:Nat}: ∀{a:List Nat},(∀x∈a,x<=n)->a.sum<=n*a.length
 | [],_=>Nat.le_refl _
 |x::a,h=>by
  have c:=h x List.mem_cons_self;have d:=aWn (a:=a) λy b=>h y (List.mem_cons_of_mem _ b)
  rw [List.sum_cons,List.length_cons,Nat.mul_add];omega
theorem tk_sum {l:List Nat}(i:Nat):(l.take i).sum<=l.sum:=by
 have:=List.sum_append (l₁:=l.take i) (l₂:=l.drop i);rw [List.take_append_drop]at this;omega
theorem aJr {a:Type}{n:Nat}{l:List a}(b:n<=64)(h:l.length<=1000000):app' n ([]:List a) l=some l:=by
 unfold app';have:(0+l.length)*n<=1000000*64:=Nat.mul_le_mul (by omega) b;rw [if_pos ⟨by rw [maxLen_eq];simp;omega,by simp only [List.length_nil];omega⟩,List.nil_append]
theorem cloneT_eq (l:List fD)(h:l.length<=1000000):Fb2 l=some l:=by
 unfold Fb2;rw [aJr (by decide) h];cases l<;>rfl
theorem cloneI_eq (l:List Int)(h:l.length<=1000000):Fb5 l=some l:=by
 unfold Fb5;rw [aJr (by decide) h];cases l<;>rfl
theorem cloneB_eq (l:List Bool)(h:l.length<=1000000):Fc8 l=some l:=by
 unfold Fc8;rw [aJr (by decide) h];cases l<;>rfl
theorem groupC_ok {rf:Nd->Option Nd}{ks:List Nd}{a:Bool} (d:ks.length<=1000000) (h: ∀k∈ks,rf k=some k):Fck rf (dK.mk ks a)=some (.group ks a):=by
 have q:Ff3 rf (dK.mk ks a) (ks.length:Int) (0,[])=some ks:=by
  unfold Ff3;refine dV (λ(i:Nat)=>((i:Int),ks.take i)) ks (some ks) (by omega) ?_ ?_
  ·intro c i x b hi;have hm:=qS b;simp only [zI];rw [yM hi,zU,yR b,zC,h x hm,zC,aXc (by simp;omega),zC,fQ hi (by omega),jE b]
  ·intro c;simp only [zI];rw [yN,zQ,List.take_length]
 unfold Fck;simp only [zI];rw [q,zC]
theorem copied_B {T P R n:Nat}{rf:Nd->Option Nd}(d: ∀k,dpN k<n->wfN T P R k->rf k=some k)(k:Nd)(h:dpN k<n+1)(e:wfN T P R k):Fbw rf k=some k:=by
 cases k with
 |constant t=>rfl
 |number tr op k=>rfl
 |pair a b _ _ op=>rfl
 |steady tr k fr last=>
  obtain⟨i,j,u⟩:=e;show gB (gB (Fb2 last) _) _=_;rw [cloneT_eq _ (by omega)];rfl
 |phase _=>rfl
 |rule r=>rfl
 |not k=>
  rw [dpN]at h;show gB (gB (rf k) _) _=_;rw [d k (by omega) e];rfl
 |group ks o=>
  rw [dpN]at h;obtain⟨i,j⟩:=e;rw [show Fbw rf (.group ks o)=gB (Fck rf (dK.mk ks o)) (λq=>some q)by rw [Fbw],groupC_ok j (λk hm=>d k (by have:=aGg hm;omega) (aBh.1 i k hm)),zC]
 |count k _ fr last _=>
  rw [dpN]at h;obtain⟨i,j,u,_,_,_⟩:=e;show gB (gB (rf k) λs=>gB (Fb5 last) _) _=_;rw [d k (by omega) i,cloneI_eq _ (by omega)];rfl
 |since a b l g=>
  rw [dpN]at h;obtain⟨i,j,u⟩:=e;show gB (gB (rf a) λs=>gB (rf b) _) _=_;rw [d a (by omega) i,d b (by omega) j];rfl
 |rises k l g=>
  rw [dpN]at h;show gB (gB (rf k) _) _=_;rw [d k (by omega) e.1];rfl
theorem aTo {T P R:Nat}: ∀(n:Nat) (k:Nd),dpN k<n->wfN T P R k->Fdm n k=some k
 |0,_,h,_=>by omega
 |n+1,k,h,a=>copied_B (λk hd a=>aTo n k hd a) k h a
theorem aPp {T P R:Nat}{k:Nd}(hd:dpN k<=1000000)(a:wfN T P R k):Ffh k=some k:=
 aTo FU k (by have:(1000000:Nat)<FU:=mM (by omega);omega) a
theorem Copy_eq {w:gY}{T P:Nat} (h:WfW w T P):Fbs w=some w:=by
 have j:=h.pb;have k:=h.po;have n:=h.ph;have hm:=h.ml;have o:=h.rl;have d:Ffo w (w.moves.length:Int) (0,[])=some w.moves:=by
  unfold Ffo;refine dV (λ(i:Nat)=>((i:Int),w.moves.take i)) w.moves (some w.moves) (by omega) ?_ ?_
  ·intro b i x a hi;have q:=h.mv x (qS a);simp only [zI];rw [yM hi,zU,yR a,zC,aPp q.2.2 q.2.1,zC];have c:app' 32 (w.moves.take i) [x]=some (w.moves.take i++[x]):=by
    unfold app';rw [if_pos ⟨by rw [maxLen_eq];simp;omega,by simp;omega⟩]
   show gB (app' 32 (w.moves.take i) [x]) _=_;rw [c,zC,fQ hi (by omega),jE a]
  ·intro b;simp only [zI];rw [yN,zQ,List.take_length]
 have e:Fhv w (w.rules.length:Int) (0,[])=some w.rules:=by
  unfold Fhv;refine dV (λ(i:Nat)=>((i:Int),w.rules.take i)) w.rules (some w.rules) (by omega) ?_ ?_
  ·intro b i x a hi;have q:=h.ru i x a;simp only [zI];rw [yM hi,zU,yR a,zC,aPp q.2 q.1,zC,aXc (by simp;omega),zC,fQ hi (by omega),jE a]
  ·intro b;simp only [zI];rw [yN,zQ,List.take_length]
 unfold Fbs;rw [aPx _ (by omega),cloneB_eq _ (by omega),zC,zC];simp only [zI];rw [d,e,zC,zC]
def aIq (t:fD):Int:=if t.Known=false/\t.N≠0 then 2 else if t.N< -1125899906842624\/1125899906842624<t.N then 9 else 0
theorem Next_eq {w:gY}{T P:Nat} (h:WfW w T P) (x:List fD) (b:x.length<=9223372036854775807):
  Fbn w x=if (x.length:Int)≠T then some ([],2,w)else dR (λ_ t=>if aIq t=0 then none else some (some ([],aIq t,w))) (some ((nxt x w).1,0,(nxt x w).2)) x 0:=by
 unfold Fbn;simp only [zI];rw [show decide ((x.length:Int)≠w.tracks)=decide ((x.length:Int)≠(T:Int))by rw [h.tr]]
 by_cases c:(x.length:Int)≠T
 ·rw [dT c,zU,if_pos c]
 ·rw [qD c,zQ,if_neg c,xB];have j:x.length=T:=by omega
  unfold Fi6;refine yY x _ _ b ?_ ?_
  ·intro k _ t a hi;simp only [zI];rw [yM hi,zU,yR a,zC,fQ hi b,aJw];simp only [zC];unfold aIq
   cases t.Known with
   |true=>
    simp only [Bool.not_true,zQ,zC,Bool.true_eq_false,false_and,if_false]
    by_cases d:t.N< -1125899906842624\/1125899906842624<t.N
    ·rw [if_pos d];have e:(decide (-1125899906842624<=t.N)&&decide (t.N<=1125899906842624))=false:=by rw [Bool.and_eq_false_iff,decide_eq_false_iff_not,decide_eq_false_iff_not];omega
     rw [e];rfl
    ·rw [if_neg d];have e:(decide (-1125899906842624<=t.N)&&decide (t.N<=1125899906842624))=true:=by rw [Bool.and_eq_true,decide_eq_true_eq,decide_eq_true_eq];omega
     rw [e];rfl
   |false=>
    simp only [Bool.not_false,zU,zC,true_and]
    by_cases z:t.N=0
    ·rw [z];rfl
    ·rw [dT z,zU,if_pos z];rfl
  ·intro k;simp only [zI];rw [yN,zQ];show gB (Fcg w x) _=_;rw [(aSq h j).1,zC]
theorem phL_short {r:Rules}(g:Gr' r)(bs:List Bool):(phL bs r.Phases).length<=50000/\ ∀s∈phL bs r.Phases,s.length<=30:=by
 have b:=aDm bs r.Phases;have c:=g.p;refine⟨by omega,λs a=>?_⟩;obtain⟨_,_,h⟩:=(aSt bs r.Phases s).1 a;exact g.pn s (qS h)
def aJh (x:fD):Prop:=i64 x.N/\True
theorem aWt {c β a σ:Type}{body:(a->Option β)->a->Option β}(enc:Nat->σ->a)(l:List c)(I:Nat->σ->Prop)(v:β)(d:l.length<=9223372036854775807)
    (h: ∀k i s x,l[i]? =some x->i<l.length->I i s-> ∃b,I (i+1) b/\body k (enc i s)=k (enc (i+1) b))(e: ∀k s,I l.length s->body k (enc l.length s)=some v)(s:σ)(j:I 0 s):fK body (enc 0 s)=some v:=by
 obtain⟨r,n,o⟩:=aV enc l I (λr=>r=v) d h (λk s p=>⟨v,e k s p,rfl⟩) s j;rw [n,o]
def aKz:List fD->Int
 | []=>0
 |t::l=>if aIq t=0 then aKz l else aIq t
def aBe (T:Nat)(x:List fD):Int:=if (x.length:Int)≠T then 2 else aKz x
theorem aHh {β:Type}(g:Int->β)(fin:Option β): ∀(x:List fD) (i:Nat),dR (λ_ t=>if aIq t=0 then none else some (some (g (aIq t)))) fin x i=if aKz x=0 then fin else some (g (aKz x))
 | [],_=>by rw [dR,aKz,if_pos rfl]
 |t::x,i=>by
  rw [dR,aKz]
  by_cases z:aIq t=0
  ·rw [if_pos z,if_pos z];exact aHh g fin x (i+1)
  ·rw [if_neg z,if_neg z,if_neg z]
theorem bAi: ∀{x:List fD},aKz x=0-> ∀t∈x,aIq t=0
 |a::x,h,t,b=>by
  rw [aKz]at h
  by_cases z:aIq a=0
  ·rw [if_pos z]at h;rcases List.mem_cons.1 b with rfl|b
   ·exact z
   ·exact bAi h t b
  ·rw [if_neg z]at h;exact absurd h z
theorem aZr {T:Nat}{x:List fD} (h:aBe T x=0):x.length=T/\ ∀t∈x,-1125899906842624<=t.N/\t.N<=1125899906842624:=by
 unfold aBe at h;by_cases c:(x.length:Int)≠T;rw [if_pos c]at h;cases h;rw [if_neg c]at h;refine⟨by omega,λt a=>?_⟩;have q:=bAi h t a;unfold aIq at q;split at q;cases q;split at q;cases q;rename_i _;omega
theorem NextE {w:gY}{T P:Nat} (h:WfW w T P) (x:List fD) (a:x.length<=9223372036854775807):Fbn w x=some (if aBe T x=0 then((nxt x w).1,0,(nxt x w).2)else([],aBe T x,w)):=by
 rw [Next_eq h x a];unfold aBe;by_cases c:(x.length:Int)≠T;rw [if_pos c,if_pos c,if_neg (by decide)];rw [if_neg c,if_neg c,aHh (λe=>(([]:List Int),e,w))];by_cases z:aKz x=0;rw [if_pos z,if_pos z];rw [if_neg z,if_neg z]
section
variable {r:Rules}{l:List fF}{f:Nat->List fD}{t:Nat}{v:gG}
theorem rowsN (h:GB r l) {ts:List Int} (d:ts.length=r.Rules.length) (a:v.rules.length=r.Rules.length)
    (b: ∀(j:Nat) y,r.Rules[j]? =some y-> ∃k x,at' v.rules (j:Int)=some k/\at' v.nodes k=some x/\at' ts (j:Int)=some x.now):Fe2 v ([],0)=some ts:=by
 have hm:=h.g.l;unfold Fe2;refine dV (λ(i:Nat)=>(ts.take i,(i:Int))) r.Rules (some ts) (by omega) ?_ ?_;intro k i y c hi;obtain⟨_,x,v1,v2,v3⟩:=b i y c;have v4:ts[i]? =some x.now:=by rwa [wX]at v3
 simp only [zI];rw [a,yM hi,zU,v1,zC,v2,zC,ap8 (by simp;omega),zC,fQ hi (by omega),jE v4];intro k;simp only [zI];rw [a,yN,zQ,List.take_of_length_le (by omega)]
theorem Next6 (h:GB r l) (u:EvI r l f t v) (x:List fD) (w:x.length<=9223372036854775807) (C:FrI l f) (G:t<=1000000) (p:aBe l.length x=0->f t=x):
  (aBe l.length x≠0->Fa5 (gZ.mk (some v)) x=some ([],aBe l.length x,gZ.mk (some v)))/\
  (aBe l.length x=0-> ∃j,Fa5 (gZ.mk (some v)) x=some ((EnW f (dP r l)).rl t,0,gZ.mk (some j))/\EvI r l f (t+1) j):=by
 have D:v.names.length=l.length:=by rw [u.names,List.length_map]
 have o:Fa5 (gZ.mk (some v)) x=if (x.length:Int)≠l.length then some ([],2,gZ.mk (some v))else
   if aKz x=0 then(gB (app' 16 ([]:List fD) x) λb=>gB (Fb7 v b) λa=>gB (Fe2 a ([],0)) λg=>some (g,0,gZ.mk (some a)))else some ([],aKz x,gZ.mk (some v)):=by
  unfold Fa5;simp only [zI,zC];rw [show decide ((x.length:Int)≠(v.names.length:Int))=decide ((x.length:Int)≠(l.length:Int))by rw [D]]
  by_cases c:(x.length:Int)≠l.length
  ·rw [dT c,zU,if_pos c]
  ·rw [qD c,zQ,if_neg c,xB];rw [<-aHh (λe=>(([]:List Int),e,gZ.mk (some v))) _ x 0];unfold Fix;refine yY x _ _ w ?_ ?_
   ·intro k _ t q hi;simp only [zI];rw [yM hi,zU,yR q,fQ hi w];simp only [zC,out6];unfold aIq
    cases t.Known with
    |true=>
     simp only [Bool.not_true,zQ,zC,Bool.true_eq_false,false_and,if_false]
     by_cases d:t.N< -1125899906842624\/1125899906842624<t.N
     ·rw [if_pos d];have e:(decide (t.N< -1125899906842624)||decide (1125899906842624<t.N))=true:=by rw [Bool.or_eq_true,decide_eq_true_eq,decide_eq_true_eq];exact d
      rw [e];rfl
     ·rw [if_neg d];have e:(decide (t.N< -1125899906842624)||decide (1125899906842624<t.N))=false:=by rw [Bool.or_eq_false_iff,decide_eq_false_iff_not,decide_eq_false_iff_not];omega
      rw [e];rfl
    |false=>
     simp only [Bool.not_false,zU,zC,true_and]
     by_cases z:t.N=0
     ·rw [z];rfl
     ·rw [dT z,zU,if_pos z];rfl
   ·intro k;simp only [zI];rw [yN,zQ]
 constructor
 ·intro e;rw [o];unfold aBe at e⊢
  by_cases c:(x.length:Int)≠l.length
  ·rw [if_pos c,if_pos c]
  ·rw [if_neg c]at e⊢;rw [if_neg c,if_neg e]
 ·intro e;have s:=p e;have y:=(aZr e).1;have H:=h.t.n;unfold aBe at e
  by_cases c:(x.length:Int)≠l.length
  ·rw [if_pos c]at e;cases e
  ·rw [if_neg c]at e;obtain⟨j,A,B,_,_,E⟩:=next_6 h C u (by omega);rw [s]at A;have rl:((EnW f (dP r l)).rl t).length=r.Rules.length:=by
    show(nxt (f t) (runT f (dP r l) t).2).1.length=_;rw [(aGl _ _).1,aYq]
   have F:j.rules.length=r.Rules.length:=by rw [B.rules,aAc];unfold rlC;rw [List.length_map]
   refine⟨j,?_,B⟩;rw [o,if_neg c,if_pos e,aJr (by decide) (by omega),zC,A,zC,rowsN h rl F E,zC]
theorem Phase6 (h:GB r l)(a:EvI r l f t v)(c:FrI l f):Fcb (gZ.mk (some v))=some (phL (runT f (dP r l) t).2.possible r.Phases):=by
 unfold Fcb;rw [zC];have b:v.phase=(runT f (dP r l) t).2.possible:=by rw [a.phase,aSs]
 have d:v.phase.length=r.Phases.length:=by rw [b];exact(aAz (rH h) c.len t).po
 have nm:Fcc (gG.mk (Rules.mk v.r.Phases v.r.Moves v.r.Rules) v.names v.dens v.told v.frames v.phase v.nodes v.first v.moves v.rules) v.phase=some (phL v.phase r.Phases):=named_eq6 (v:=v) (ss:=r.Phases) v.phase (by rw [a.rs]) d h.g.p;rw [nm,zC,b]
end
theorem aDd {d:Type}{l:List d}{g:d->Nat}{n:Nat} (k:l.length<=1000000) (o:n+(l.map g).sum<=1000000000) {body:(Int×Int->Option Int)->Int×Int->Option Int}
  (h: ∀a (s:Nat) (i:Nat) x,l[i]? =some x->s+g x<=1000000000->body a ((s:Int),(i:Int))=a (((s+g x:Nat):Int),((i+1:Nat):Int))) (c: ∀a (s:Int),body a (s,(l.length:Int))=some s):fK body ((n:Int),0)=some ((n+(l.map g).sum:Nat):Int):=by
 have j:((n:Int),(0:Int))=(λ(i:Nat)=>(((n+((l.map g).take i).sum:Nat):Int),(i:Int))) 0:=by
  show _=(((n+((l.map g).take 0).sum:Nat):Int),((0:Nat):Int));rw [List.take_zero];rfl
 rw [j];refine dV (λ(i:Nat)=>(((n+((l.map g).take i).sum:Nat):Int),(i:Int))) l (some ((n+(l.map g).sum:Nat):Int)) (by omega) ?_ ?_
 ·intro a i x c _;have e:((l.map g).take (i+1)).sum=((l.map g).take i).sum+g x:=by
   have q:(l.map g)[i]? =some (g x):=by rw [List.getElem?_map,c];rfl
   rw [jE q,List.sum_append,List.sum_cons,List.sum_nil];rfl
  have b:=tk_sum (l:=l.map g) (i+1);show body a (((n+((l.map g).take i).sum:Nat):Int),(i:Int))=a (((n+((l.map g).take (i+1)).sum:Nat):Int),((i+1:Nat):Int));rw [h a _ i x c (by omega),e,Nat.add_assoc]
 ·intro a;show body a (((n+((l.map g).take l.length).sum:Nat):Int),(l.length:Int))=_;rw [c,List.take_of_length_le (by simp)]
theorem KeptW {w:gY}{T P:Nat} (h:WfW w T P) {n:Nat} (d:(phL w.possible w.phases).length+(w.moves.map λx=>kpN x.when).sum+(w.rules.map kpN).sum=n) (k:n<=1000000000):Fb9 w=some (n:Int):=by
 unfold Fb9;have ph:Fa2 (gY.mk w.phases w.tracks w.moves w.rules w.possible)=some (phL w.possible w.phases):=aUj h;have hm:=h.ml;have o:=h.rl;have e:Fgp w (w.moves.length:Int) (((phL w.possible w.phases).length:Int),0)=some (((phL w.possible w.phases).length+(w.moves.map λx=>kpN x.when).sum:Nat):Int):=by
  unfold Fgp;refine aDd (by omega) (by omega) (λb s i x a c=>?_) λb s=>?_
  ·have q:=h.mv x (qS a);have hi:=(gS.1 a).1;simp only [zI];rw [yM hi,zU,yR a,zC,bBv q.2.2 q.2.1 (by omega),zC,fQ hi (by omega),aEb c]
  ·simp only [zI];rw [yN,zQ]
 have j:Fgs w (w.rules.length:Int) ((((phL w.possible w.phases).length+(w.moves.map λx=>kpN x.when).sum:Nat):Int),0)=some (n:Int):=by
  unfold Fgs;rw [<-d];refine aDd (by omega) (by omega) (λb s i x a c=>?_) λb s=>?_
  ·have q:=h.ru i x a;have hi:=(gS.1 a).1;simp only [zI];rw [yM hi,zU,yR a,zC,bBv q.2 q.1 (by omega),zC,fQ hi (by omega),aEb c]
  ·simp only [zI];rw [yN,zQ]
 rw [ph,zC];simp only [zI];rw [e,zC,j,zC]
def moR (r:Rules):Nat:=r.Phases.length+(r.Moves.map λm=>moN m.When).sum+(r.Rules.map λx=>moN x.When).sum
theorem moR_bd {r:Rules}(g:Gr' r):moR r<=100000000:=by
 have c:=aWn (n:=819200) (a:=r.Moves.map λm=>moN m.When) λx b=>by obtain⟨m,hm,rfl⟩:=List.mem_map.1 b;exact aYu (g.mg m hm).1
 have d:=aWn (n:=819200) (a:=r.Rules.map λm=>moN m.When) λx b=>by obtain⟨m,hm,rfl⟩:=List.mem_map.1 b;exact aYu (g.lg m hm).1
 rw [List.length_map]at c d;have:=g.p;have:=g.m;have:=g.l;unfold moR;omega
theorem MostR {r:Rules} (g:Gr' r):Fem r=some ((moR r:Nat):Int):=by
 have d:=moR_bd g;have j:=g.p;have hm:=g.m;have k:=g.l;unfold moR at d⊢;unfold Fem;have e:Fh5 r ((r.Phases.length:Int),0)=some ((r.Phases.length+(r.Moves.map λm=>moN m.When).sum:Nat):Int):=by
  unfold Fh5;refine aDd (by omega) (by omega) (λb s i x a c=>?_) λb s=>?_
  ·have hi:=(gS.1 a).1;simp only [zI];rw [yM hi,zU,yR a,zC,bCc (g.mg x (qS a)).1,zC,fQ hi (by omega),aEb c]
  ·simp only [zI];rw [yN,zQ]
 have h:Fhj r (((r.Phases.length+(r.Moves.map λm=>moN m.When).sum:Nat):Int),0)=some ((r.Phases.length+(r.Moves.map λm=>moN m.When).sum+(r.Rules.map λx=>moN x.When).sum:Nat):Int):=by
  unfold Fhj;refine aDd (by omega) (by omega) (λb s i x a c=>?_) λb s=>?_
  ·have hi:=(gS.1 a).1;simp only [zI];rw [yM hi,zU,yR a,zC,bCc (g.lg x (qS a)).1,zC,fQ hi (by omega),aEb c]
  ·simp only [zI];rw [yN,zQ]
 simp only [zI];rw [e,zC,h,zC]
theorem kept_most {r:Rules}{l:List fF} (h:GB r l) {f:Nat->List fD} (c:FrI l f) (t:Nat): ∃n:Nat,Fb9 (runT f (dP r l) t).2=some (n:Int)/\n<=moR r:=by
 have g:=h.g;have d:=moR_bd g;obtain⟨j,a2,a3⟩:=bAu (rH h) c.len (aFi h f) t;have k:=aAz (rH h) c.len t;have o:(phL (runT f (dP r l) t).2.possible (runT f (dP r l) t).2.phases).length<=r.Phases.length:=by
  have:=aDm (runT f (dP r l) t).2.possible (runT f (dP r l) t).2.phases;rw [j]at this⊢;exact this
 have s1:((runT f (dP r l) t).2.moves.map λx=>kpN x.when).sum<=(r.Moves.map λm=>moN m.When).sum:=by
  rw [a2];refine aXm ?_ λi x y a b=>?_
  ·rw [List.length_map,List.length_map,List.length_map];show(r.Moves.map (mvN r l)).length=_;rw [List.length_map]
  ·rw [List.getElem?_map,Option.map_eq_some_iff]at b;obtain⟨m,hm,rfl⟩:=b;have e:((dP r l).moves)[i]? =some (mvN r l m):=by show(r.Moves.map (mvN r l))[i]? =_;rw [List.getElem?_map,hm];rfl
   rw [List.getElem?_map,List.getElem?_map,e]at a;obtain rfl:=oI a;exact kp_mk _ t _ _ _ (Nat.le_refl _) (g.mg m (qS hm)).1
 have s2:((runT f (dP r l) t).2.rules.map kpN).sum<=(r.Rules.map λx=>moN x.When).sum:=by
  rw [a3];refine aXm ?_ λi x y a b=>?_
  ·rw [List.length_map,List.length_map,List.length_map];show(r.Rules.mapIdx (rlN r l)).length=_;rw [List.length_mapIdx]
  ·rw [List.getElem?_map,Option.map_eq_some_iff]at b;obtain⟨m,hm,rfl⟩:=b;have e:((dP r l).rules)[i]? =some (rlN r l i m):=by show(r.Rules.mapIdx (rlN r l))[i]? =_;rw [List.getElem?_mapIdx,hm];rfl
   rw [List.getElem?_map,List.getElem?_map,e]at a;obtain rfl:=oI a;exact kp_mk _ t _ _ _ (Nat.le_refl _) (g.lg m (qS hm)).1
 refine⟨_,KeptW k rfl ?_,?_⟩
 ·unfold moR at d;omega
 ·unfold moR;omega
def vP (T:Nat)(told:List (List fD)):List (List fD):=told.filter λx=>decide (aBe T x=0)
def aEx (T:Nat)(told:List (List fD))(t:Nat):List fD:=((vP T told)[t]?).getD (List.replicate T (fD.mk 0 false))
theorem frm_I (l:List fF)(told:List (List fD)):FrI l (aEx l.length told):=by
 have a: ∀t,(aEx l.length told t).length=l.length/\ ∀x∈aEx l.length told t,-1125899906842624<=x.N/\x.N<=1125899906842624:=by
  intro t;unfold aEx
  cases h:(vP l.length told)[t]? with
  |none=>exact⟨by simp,λx b=>by obtain⟨_,rfl⟩:=List.mem_replicate.1 b;exact⟨by decide,by decide⟩⟩
  |some x=>
   have hm:=qS h;unfold vP at hm;rw [List.mem_filter,decide_eq_true_eq]at hm;exact aZr hm.2
 exact⟨λt=>(a t).1,λt x b=>(a t).2 x b⟩
theorem acc_at {T:Nat}{told:List (List fD)}{i:Nat}{x:List fD}(a:told[i]? =some x)(b:aBe T x=0):aEx T told (vP T (told.take i)).length=x:=by
 have e:told=told.take i++x::told.drop (i+1):=by
  obtain⟨hi,rfl⟩:=gS.1 a;rw [<-List.drop_eq_getElem_cons hi,List.take_append_drop]
 have c:vP T told=vP T (told.take i)++x::vP T (told.drop (i+1)):=by
  conv=>lhs;rw [e]
  unfold vP;rw [List.filter_append,List.filter_cons_of_pos (by rw [decide_eq_true_eq];exact b)]
 unfold aEx;rw [c,List.getElem?_append_right (Nat.le_refl _),Nat.sub_self];rfl
theorem acc_succ {T:Nat}{told:List (List fD)}{i:Nat}{x:List fD}(a:told[i]? =some x):(vP T (told.take (i+1))).length=(vP T (told.take i)).length+if aBe T x=0 then 1 else 0:=by
 rw [jE a];unfold vP;rw [List.filter_append,List.length_append];by_cases e:aBe T x=0;rw [List.filter_cons_of_pos (by rw [decide_eq_true_eq];exact e),if_pos e];rfl;rw [List.filter_cons_of_neg (by rw [decide_eq_true_eq];exact e),if_neg e];rfl
theorem acc_le (T:Nat)(told:List (List fD))(i:Nat):(vP T (told.take i)).length<=i:=by
 have a:(vP T (told.take i)).length<=(told.take i).length:=List.length_filter_le _ _;rw [List.length_take]at a;omega
theorem texts_ex (l:List Str)(e:Int)(i:l.length<=50000)(a: ∀s∈l,s.length<=30): ∃t,Fby l e=some t:=by
 unfold Fby;obtain⟨q,c,d⟩:=ink_Texts (gX.mk []) l (b:=0) a (by simp) (by omega);obtain⟨_,h,_⟩:=aAx q e d (by omega);rw [c,zC];unfold Fci Fc9;rw [h];exact⟨_,rfl⟩
theorem rem3 (i:Nat): ∃z,aHv (i:Int) 3=some z:=by unfold aHv;exact⟨_,if_neg (by decide)⟩
theorem aWu {r:Rules}{l:List fF} (h:GB r l) (told:List (List fD)) (ht:told.length<=9223372036854775807) (M: ∀x∈told,x.length<=9223372036854775807):
  Fgt r told (λ_=>gB Fdq λx=>some x) (some (dP r l),some (gZ.mk (some (ev0 r l))),0)=some true:=by
 have g:=h.g;have B:=frm_I l told;unfold Fgt;refine aWt (λ(i:Nat) (s:gY×gG)=>(some s.1,some (gZ.mk (some s.2)),(i:Int))) (List.replicate (min told.length 60) ()) (λi s=>s.1=(runT (aEx l.length told) (dP r l) (vP l.length (told.take i)).length).2/\EvI r l (aEx l.length told) (vP l.length (told.take i)).length s.2) true (by simp;omega) (λk i s _ _ hi J=>?_) (λk w J=>?_) (dP r l,ev0 r l) ⟨by rw [List.take_zero];rfl,by rw [List.take_zero];exact evI_zero h _⟩
 ·obtain⟨w,v⟩:=s;obtain⟨C,i2⟩:=J;dsimp only at C i2;rw [List.length_replicate]at hi;have j:told[i]? =some (told[i]'(by omega)):=gE (by omega);generalize told[i]'(by omega)=x at j;have N:at' told (i:Int)=some x:=yR j;have p:=M x (qS j);have F:WfW w l.length r.Phases.length:=by rw [C];exact aAz (rH h) B.len _
  obtain⟨z,O⟩:=rem3 i;have tb:=acc_le l.length told i;obtain⟨P,Q⟩:=Next6 h i2 x p B (by omega) λe=>acc_at j e
  have D: ∃w' o ts,Fbn w x=some (ts,aBe l.length x,w')/\Fa5 (gZ.mk (some v)) x=some (ts,aBe l.length x,gZ.mk (some o))/\
    w'=(runT (aEx l.length told) (dP r l) (vP l.length (told.take (i+1))).length).2/\EvI r l (aEx l.length told) (vP l.length (told.take (i+1))).length o/\ts.length<=60:=by
   rw [acc_succ j]
   by_cases e:aBe l.length x=0
   ·obtain⟨o,R,S⟩:=Q e;have K:aEx l.length told (vP l.length (told.take i)).length=x:=acc_at j e;refine⟨(nxt x w).2,o,(nxt x w).1,?_,?_,?_,?_,?_⟩
    ·rw [NextE F x p,if_pos e,e]
    ·rw [R,e];show some ((nxt (aEx l.length told (vP l.length (told.take i)).length) (runT (aEx l.length told) (dP r l) (vP l.length (told.take i)).length).2).1,_,_)=_;rw [K,<-C]
    ·rw [if_pos e];show _=(nxt (aEx l.length told (vP l.length (told.take i)).length) (runT (aEx l.length told) (dP r l) (vP l.length (told.take i)).length).2).2;rw [K,<-C]
    ·rw [if_pos e];exact S
    ·rw [(aGl x w).1,C,aYq];exact g.l
   ·refine⟨w,v,[],?_,P e,?_,?_,Nat.zero_le _⟩
    ·rw [NextE F x p,if_neg e]
    ·rw [if_neg e];exact C
    ·rw [if_neg e];exact i2
  obtain⟨w',o,ts,m1,m2,m3,m4,m5⟩:=D;have G:WfW w' l.length r.Phases.length:=by rw [m3];exact aAz (rH h) B.len _
  have T:w'.phases=r.Phases:=by rw [m3];exact(bAu (rH h) B.len (aFi h _) _).1
  have X:Fa2 w'=some (phL w'.possible r.Phases):=by rw [aUj G,T]
  have Y:Fcb (gZ.mk (some o))=some (phL w'.possible r.Phases):=by rw [Phase6 h m4 B,m3]
  have q:=phL_short g w'.possible;obtain⟨t1,H⟩:=lists_ex [ts] (aBe l.length x) (by simp) (λ_ hy=>by obtain rfl:=mS.1 hy;omega);obtain⟨t2,E⟩:=texts_ex (phL w'.possible r.Phases) 0 q.1 q.2;obtain⟨n,L,_⟩:=kept_most h B (vP l.length (told.take (i+1))).length;rw [<-m3]at L;have mo:=MostR g;refine⟨(w',o),⟨m3,m4⟩,?_⟩;simp only [zI];rw [dT (by omega:(i:Int)<(told.length:Int)),dT (by omega:(i:Int)<60),zU,zC,zU,O,zC];have cp:(gQ (decide (z=1)) (gB (some w) λa=>gB (Fbs (gY.mk a.phases a.tracks a.moves a.rules a.possible)) λb=>some (some (gY.mk b.phases b.tracks b.moves b.rules b.possible))) (some (some w)))=some (some w):=by
   have c:Fbs (gY.mk w.phases w.tracks w.moves w.rules w.possible)=some w:=Copy_eq F
   by_cases d:z=1
   ·rw [dT d,zU,zC,c,zC]
   ·rw [qD d,zQ]
  rw [cp,zC,N,zC,zC];show gB (Fbn w x) _=_;rw [m1,zC,zC,zC];show gB (Fa5 (gZ.mk (some v)) x) _=_;rw [m2,zC];simp only [];rw [H,zC,zC];simp only [ne_eq,not_true_eq_false,decide_false,zQ];show gB (gB (Fa2 w') λA=>gB (Fby A 0) λ_=>gB (Fcb (gZ.mk (some o))) _) _=_;rw [X,zC,E,zC,Y,zC,E,zC];simp only [not_true_eq_false,decide_false,zC,zQ];show gB (Fb9 w') _=_;rw [L,zC,qD (by omega: ¬(n:Int)<0),zQ,mo,zC,qD (by omega: ¬((moR r:Nat):Int)<(n:Int)),zC,zQ,wrap_i64 (by omega) (by omega)];rfl
 ·rw [List.length_replicate];simp only [zI]
  by_cases c:(told.length:Int)<=60
  ·rw [qD (by omega: ¬((min told.length 60:Nat):Int)<(told.length:Int)),zQ,zC,zQ,aEu,zC]
  ·rw [dT (by omega:((min told.length 60:Nat):Int)<(told.length:Int)),zU,qD (by omega: ¬((min told.length 60:Nat):Int)<60),zC,zQ,aEu,zC]
theorem New_eq {r:Rules}{l:List fF}(a:okR r)(b:okL sU l):Fe1 r l=some (if aAl r l=0 then(some (dP r l),0)else(none,aAl r l)):=by
 unfold Fe1;rw [aSa a b,zC];simp only [zI];by_cases z:aAl r l=0;rw [qD (by simpa using z),zQ,aUv (aRj a z),zC,if_pos z];rw [dT (by simpa using z),zU,if_neg z]
theorem New6 {r:Rules}{l:List fF}(a:okR r)(b:okL sU l):Fej r l=some (if aAl r l=0 then(some (gZ.mk (some (ev0 r l))),0)else(none,aAl r l)):=by
 unfold Fej;rw [aNy a b,zC];simp only [zI];by_cases z:aAl r l=0;rw [qD (by simpa using z),zQ,empty_eq (aRj a z),zC,if_pos z];rw [dT (by simpa using z),zU,if_neg z]
theorem law_Watch (r:Rules) (l:List fF) (told:List (List fD)) (a:aZs r) (b:okL sU l) (c:okL (λx=>okL (λy=>aJh y) x) told):Fgy r l told=some true:=by
 have n:=New_eq (l:=l) (r:=r) a b;have m:=New6 (l:=l) (r:=r) a b;unfold Fgy;by_cases z:aAl r l=0;rw [if_pos z]at n m;rw [n,zC];dsimp only;rw [m,zC];simp only [zI,ne_eq,not_true_eq_false,decide_false,zQ,zC,xB,Option.isNone_some];exact aWu (aRj a z) told c.1 λx d=>(c.2 x d).1;rw [if_neg z]at n m;rw [n,zC];dsimp only;rw [m,zC];simp only [zI,ne_eq,z,not_false_eq_true,decide_true,zU,zC,aEu]
end Go.Lf
