/- Laws that the claim stands on; no condition beyond those stated. -/
import Derived.Test.YthgccglopkgghaaGreatDoorSPa
namespace Go.Lf
open Go.OB
theorem app1 (p q:List Int)(h:p.length+q.length<=140737488355328):app' 1 p q=some (p++q):=by
 unfold app';rw [if_pos ⟨by rw [Go.OB.maxLen_eq];omega,by omega⟩]
theorem uA (p:List Int)(n:Int)(a:0<=n/\n<=18446744073709551615)(h:p.length+20<=140737488355328): ∃q,Fcg p n 10=some q/\q.length<=p.length+20:=by
 unfold Fcg;rw [if_pos ⟨rfl,a.1,a.2,h⟩];refine⟨_,rfl,?_⟩;rw [List.length_append,kG,Lib.decDigits_length];have:=Lib.nDigits_le20 n.toNat (by omega);omega
theorem aJp (n:Int):0<=IntKind.u64.wrap n/\IntKind.u64.wrap n<=18446744073709551615:=by
 rw [IntKind.wrap_u64];omega
theorem aFe (p:List Int) (n:Int) (h:p.length+21<=140737488355328): ∃q,Fdh p n 10=some q/\q.length<=p.length+21:=by
 have e: ∃q,Fdu p n 10=some q/\q.length<=p.length+21:=by
  unfold Fdu;simp only [zS,iteB_dec]
  by_cases c:n<0
  ·have d:=app1 p [45] (by simp;omega);rw [if_pos c,d,zA,zA];obtain⟨q,a,b⟩:=uA (p++[45]) (IntKind.u64.wrap (-IntKind.u64.wrap n)) (aJp _) (by simp;omega);simp only [];rw [a,zA];exact⟨q,rfl,by simp at b;omega⟩
  ·rw [if_neg c,zA];obtain⟨q,a,b⟩:=uA p (IntKind.u64.wrap n) (aJp _) (by omega);simp only [];rw [a,zA];exact⟨q,rfl,by omega⟩
 obtain⟨q,a,b⟩:=e;unfold Fdh;rw [a,zA];exact⟨q,rfl,b⟩
def Gr (r:Option gJ)(n:Nat):Prop:= ∃q,r=some q/\q.out.length<=n
theorem Gr.bind {a:Option gJ}{k:gJ->Option gJ}{n m:Nat}(h:Gr a n)(b: ∀q,q.out.length<=n->Gr (k q) m):Gr (gI a k) m:=by
 obtain⟨q,c,d⟩:=h;rw [c,zA];exact b q d
theorem Gr.get {r:Option gJ}{n:Nat}(h:Gr r n): ∃q,r=Option.some q/\q.out.length<=n:=h
theorem Gr.some {q:gJ}{n:Nat}(h:q.out.length<=n):Gr (Option.some q) n:=⟨q,rfl,h⟩
theorem nN (p:gJ)(n:Int){b:Nat}(c:p.out.length<=b)(h:b<=100000000000000):Gr (Fau p n) (b+22):=by
 obtain⟨q,a,_⟩:=aFe p.out n (by omega);unfold Fau;rw [a,zA];simp only [zS];rw [app1 q [32] (by simp;omega),zA];exact Gr.some (by simp;omega)
theorem ink_Ints (p:gJ) (l:List Int) {b:Nat} (c:p.out.length<=b) (h:b+22+22*l.length<=100000000000000):Gr (Fc0 p l) (b+22+22*l.length):=by
 unfold Fc0;simp only [zS];refine(nN p _ c (by omega)).bind λ_ d=>?_
 unfold Ff4;refine qF (λ(i:Nat) (s:List Int)=>((i:Int),s)) l (λi s=>s.length<=b+22+22*i) (λ(r:gJ)=>r.out.length<=b+22+22*l.length) (by omega) ?_ ?_ _ (by simpa using d)
 ·intro e i s x f hi a;obtain⟨r,g,_⟩:=nN (gJ.mk s) x a (by omega);refine⟨r.out,by omega,?_⟩;simp only [zS];rw [xJ hi,zI,bD f,zA,g,zA,dM hi (by omega)]
 ·intro e s a;simp only [zS];rw [xI,zH];exact⟨_,rfl,a⟩
theorem aGb (p:gJ)(s:Str){b:Nat}(a:p.out.length<=b)(h:b+22+s.length<=100000000000000):Gr (Fb2 p s) (b+22+s.length):=by
 unfold Fb2;simp only [zS];refine(nN p _ a (by omega)).bind λq _=>?_
 rw [app1 q.out (nums s) (by rw [kG];omega),zA];exact Gr.some (by simp [kG];omega)
theorem wX (p:gJ) (l:List Str) {b:Nat} (d: ∀s∈l,s.length<=30) (e:p.out.length<=b) (h:b+22+52*l.length<=100000000000000):Gr (Fbi p l) (b+22+52*l.length):=by
 unfold Fbi;simp only [zS];refine(nN p _ e (by omega)).bind λ_ f=>?_
 unfold Ffy;refine qF (λ(i:Nat) (s:List Int)=>((i:Int),s)) l (λi s=>s.length<=b+22+52*i) (λ(r:gJ)=>r.out.length<=b+22+52*l.length) (by omega) ?_ ?_ _ (by simpa using f)
 ·intro g i s x c hi a;have j:=d x (mG c);obtain⟨r,k,_⟩:=aGb (gJ.mk s) x a (by omega);refine⟨r.out,by omega,?_⟩;simp only [zS];rw [xJ hi,zI,bD c,zA,k,zA,dM hi (by omega)]
 ·intro g s a;simp only [zS];rw [xI,zH];exact⟨_,rfl,a⟩
set_option maxRecDepth 1000000 in
theorem aJb:Fd0=some true:=by kernel_rfl
structure Gk (c:Cond):Prop where
 z:c.Kind<=7->c.Kids.length=0
 o:(c.Kind=8\/c.Kind=11\/c.Kind=12\/c.Kind=13\/c.Kind=15)->c.Kids.length=1
 t:c.Kind=14->c.Kids.length=2
 g:(c.Kind=9\/c.Kind=10)->2<=c.Kids.length
 fr:(c.Kind=5\/c.Kind=11\/c.Kind=12\/c.Kind=13)->1<=c.Frames
 cn:c.Kind=13->1<=c.N/\c.N<=c.Frames
 st:c.Kind=5->0<=c.N
 op:(c.Kind=3\/c.Kind=4)->1<=c.Op
set_option maxHeartbeats 20000000 in
theorem gk_in (nm ot:Str)(op n fr:Int)(ks:List Cond)(k:Int)(hk2:k=1\/k=2\/k=3\/k=4\/k=5\/k=6\/k=7\/k=8\/k=9\/k=10\/k=11\/k=12\/k=13\/k=14\/k=15)(h1:okS nm)(h2:okS ot)(h:Fan ⟨k,nm,ot,op,n,fr,ks⟩=some 0):Gk ⟨k,nm,ot,op,n,fr,ks⟩:=by
  rcases hk2 with rfl | rfl | rfl | rfl | rfl | rfl | rfl | rfl | rfl | rfl | rfl | rfl | rfl | rfl | rfl<;>
    (unfold Fan at h
     simp only [rf1,rf2,rf3,rf4,rf5,rf6,rf7,rf8,rf9,rf10,rf11,rf12,rf13,rf14,rf15,zA,zS,Bool.not_true,Bool.not_false,zI,zH,yU,out6,kS _ h1,kS _ h2,Int.reduceEq,Int.reduceLT,Int.reduceLE,decide_true,decide_false,Bool.or_self,aAm,kH,aCa] at h;simp only [wI] at h;constructor<;>grind)
theorem gk_of {c:Cond} (d:okC c) (f:c.Kids.length<=200) (h:ck1 c=0):Gk c:=by
 have e:=(aEj c (aEn d) f).2;rw [h]at e
 by_cases a:1<=c.Kind/\c.Kind<=15
 ·have o:=aEn d;obtain⟨k,g,i,j,n,l,m⟩:=c;have b:k=1\/k=2\/k=3\/k=4\/k=5\/k=6\/k=7\/k=8\/k=9\/k=10\/k=11\/k=12\/k=13\/k=14\/k=15:=by have:=a.1;have:=a.2;simp only at *;omega
  exact gk_in g i j n l m k b o.1 o.2 e
 ·rw [(chk_no c a).2]at e
  cases e
theorem Gt.gk {c:Cond}(g:Gt c):Gk c:=by
 have h:=g.e;rw [aDc]at h;have a:=vY c.Kids;have b:=aAa c;have d:=g.n;split at h
 ·rename_i q;exact gk_of g.ok (by omega) q
 ·rename_i q;exact absurd h q
end Go.Lf
