/- Laws that the claim stands on; no condition beyond those stated. -/
import Derived.Test.YtbjofgmdhbiekaaGreatDoorSOa
import Derived.Test.YtbjofgmdhbiekaaGreatDoorBKc
namespace Go.Lf
open Go.RowKit Go.OB
def seg (d:List Int)(u v:Nat):List Int:=(d.drop u).take (v-u)
theorem aGb {d:List Int}{u v:Nat}(b:u<=v)(c:v<=d.length):d=d.take u++seg d u v++d.drop v/\(d.take u).length=u/\(seg d u v).length=v-u/\(d.drop v).length=d.length-v:=by
 refine⟨?_,by rw [List.length_take];omega,by unfold seg;rw [List.length_take,List.length_drop];omega,List.length_drop⟩;have a:d.drop v=(d.drop u).drop (v-u):=by rw [List.drop_drop];congr 1;omega
 unfold seg;rw [a,List.append_assoc,List.take_append_drop,List.take_append_drop]
theorem aWs {d:List Int}{u v:Nat}(a:v<=d.length):(seg d u v).length=v-u:=by unfold seg;rw [List.length_take,List.length_drop];omega
structure Step (d d':List Int)(u v:Nat):Prop where
 len:d'.length=d.length
 perm:d'.Perm d
 mem: ∀x,x∈seg d' u v↔x∈seg d u v
 other: ∀p q,p<=q->q<=d.length->(q<=u\/v<=p)->seg d' p q=seg d p q
theorem aXp {d:List Int}{u v:Nat} (j:u<=v) (k:v<=d.length) {S:List Int} (g:S.Perm (seg d u v)):Step d (d.take u++S++d.drop v) u v/\seg (d.take u++S++d.drop v) u v=S:=by
 obtain⟨e,l1,l2,m⟩:=aGb j k;have i:=g.length_eq;have a:seg (d.take u++S++d.drop v) u v=S:=by
  unfold seg;rw [List.append_assoc,List.drop_append,l1,Nat.sub_self,List.drop_of_length_le (by omega),List.nil_append,List.drop_zero,List.take_append_of_le_length (by omega),List.take_of_length_le (by omega)]
 refine⟨⟨?_,?_,λ_=>?_,λp q _ _ h=>?_⟩,a⟩
 ·rw [List.length_append,List.length_append,l1,m,i,l2];omega
 ·have b:(d.take u++S++d.drop v).Perm (d.take u++seg d u v++d.drop v):=(g.append_left _).append_right _;rw [<-e]at b;exact b
 ·rw [a];exact g.mem_iff
 ·rcases h with h|h
  ·have b: ∀X:List Int,seg (d.take u++X) p q=seg (d.take u) p q:=λX=>by
    unfold seg;rw [List.drop_append_of_le_length (by omega),List.take_append_of_le_length (by rw [List.length_drop];omega)]
   have f:=b (S++d.drop v);have c:=b (seg d u v++d.drop v);rw [<-List.append_assoc]at f c;rw [<-e]at c;rw [f,c]
  ·have b: ∀X:List Int,X.length=v->seg (X++d.drop v) p q=seg (d.drop v) (p-v) (q-v):=λX s=>by
    unfold seg;rw [List.drop_append,s,List.drop_of_length_le (by omega),List.nil_append]
    congr 1
    omega
   have f:=b (d.take u++S) (by rw [List.length_append,l1,i,l2];omega);have c:=b (d.take u++seg d u v) (by rw [List.length_append,l1,l2];omega);rw [<-e]at c;rw [f,c]
section
variable {pr:Int->Int->Bool}{c0:List fB}{c1:Book}{n:Int}
structure Good (pr:Int->Int->Bool)(d:List Int)(u v:Nat):Prop where
 s:Srd pr (seg d u v)
 m: ∀x∈seg d u v,(u:Int)<=x/\x<(v:Int)
theorem Good.keep {d b:List Int}{u v p q:Nat}(h:Good pr d p q)(c:Step d b u v)(a:p<=q)(f:q<=d.length)(g:q<=u\/v<=p):Good pr b p q:=by
 have e:=c.other p q a f g;exact⟨by rw [e];exact h.s,by rw [e];exact h.m⟩
theorem ins_op (H:aGm pr c0 c1 n){d:List Int}{u v:Nat}(f:u<=v)(g:v<=d.length)(k:(v:Int)<=n)(m:d.length<=100000)(a:(seg d u v).Pairwise (· < ·))(hm: ∀x∈seg d u v,(u:Int)<=x/\x<(v:Int)):
    ∃c,Faq d (u:Int) (v:Int) c0 c1=some c/\Step d c u v/\Good pr c u v:=by
 obtain⟨e,l1,_,_⟩:=aGb f g;obtain⟨_,h,i,j⟩:=insert_ok H (d.take u) (seg d u v) (d.drop v) (λx b=>by have:=hm x b;omega) a (by omega);obtain⟨s1,s2⟩:=aXp f g i;rw [<-e,l1,show u+(seg d u v).length=v by omega]at h;refine⟨_,h,s1,⟨by rw [s2];exact j,λx b=>?_⟩⟩;rw [s2]at b;exact hm x (i.mem_iff.1 b)
theorem mrg_op (H:aGm pr c0 c1 n){d:List Int}{u m v:Nat}(A:u<m)(B:m<v)(j:v<=d.length)(C:(v:Int)<=n)(D:d.length<=100000)(g:Good pr d u m)(i:Good pr d m v):
  ∃k,Faw d (u:Int) (m:Int) (v:Int) c0 c1=some k/\Step d k u v/\Good pr k u v:=by
 obtain⟨e,l1,_,_⟩:=aGb (show u<=v by omega) j;have c:seg d u v=seg d u m++seg d m v:=by
  unfold seg;rw [show v-u=(m-u)+(v-m)by omega,List.take_add,List.drop_drop,show u+(m-u)=m by omega]
 have q:=aWs (d:=d) (u:=u) (v:=m) (by omega);have t:=aWs (d:=d) (u:=m) (v:=v) j;obtain⟨_,p,o,w⟩:=merge_ok H FU (d.take u) (seg d u m) (seg d m v) (d.drop v) (λx f=>by have:=g.m x f;omega) (λx f=>by have:=i.m x f;omega) g.s i.s (λa y b z=>by have:=i.m a y;have:=g.m b z;omega) (by omega) (by omega) (by omega) (Nat.le_of_lt (aAv (by omega)));rw [<-c]at o;obtain⟨s1,s2⟩:=aXp (show u<=v by omega) j o;rw [show d.take u++seg d u m++seg d m v++d.drop v=d by rw [List.append_assoc (d.take u),<-c];exact e.symm,l1,q,t,show u+(m-u)=m by omega,show m+(v-m)=v by omega]at p;refine⟨_,p,s1,⟨by rw [s2];exact w,λx f=>?_⟩⟩;rw [s2]at f;have:=o.mem_iff.1 f;rw [c,mA]at this;rcases this with h|h
 ·have:=g.m x h;omega
 ·have:=i.m x h;omega
end
def ids (N:Nat):List Int:=(List.range N).map λ(i:Nat)=>(i:Int)
theorem aEc (N:Nat):(ids N).length=N:=by unfold ids;rw [List.length_map,List.length_range]
theorem aWx (N u v:Nat):(seg (ids N) u v).Pairwise (· < ·):=by
 have h:(ids N).Pairwise (· < ·):=by
  unfold ids;rw [List.pairwise_map];exact List.Pairwise.imp (λ {_ _} h=>by omega) List.pairwise_lt_range
 unfold seg;exact List.Pairwise.sublist ((List.take_sublist _ _).trans (List.drop_sublist _ _)) h
theorem aYg {N u v:Nat}(_:v<=N): ∀x∈seg (ids N) u v,(u:Int)<=x/\x<(v:Int):=by
 intro x a;unfold seg ids at a;obtain⟨_,hi,rfl⟩:=List.mem_iff_getElem.1 a;rw [List.getElem_take,List.getElem_drop,List.getElem_map,List.getElem_range];rw [List.length_take]at hi;omega
theorem aIs {d:List Int}{u N p q:Nat}(a:u<=p)(b:q<=N):seg d p q=((seg d u N).drop (p-u)).take (q-p):=by
 unfold seg;rw [List.drop_take,List.take_take,List.drop_drop];congr 1;omega;congr 1;omega
theorem seg_all (d:List Int):seg d 0 d.length=d:=by unfold seg;rw [List.drop_zero,Nat.sub_zero,List.take_length]
section
variable {pr:Int->Int->Bool}{c0:List fB}{c1:Book}{N:Nat}
def AG (pr:Int->Int->Bool)(N s:Nat)(d:List Int):Prop:= ∀u,s ∣ u->u<N->Good pr d u (min (u+s) N)
theorem pG {s a u:Nat}(b:s ∣ a)(c:s ∣ u)(h:u<a):u+s<=a:=by
 have:=Nat.le_of_dvd (by omega) (Nat.dvd_sub b c);omega
theorem stage1 (H:aGm pr c0 c1 (N:Int)) (J:N<=500): ∃(d:List Int) (a:Nat),Fkf (N:Int) c0 c1 (0,20,ids N)=some ((a:Int),d)/\d.length=N/\d.Perm (ids N)/\20 ∣ a/\a<=N/\N<a+20/\(∀u,20 ∣ u->u+20<=a->Good pr d u (u+20))/\seg d a N=seg (ids N) a N:=by
 have h:=uF (β:=Int×List Int) (body:=λj (x:Int×Int×List Int)=>match x with
  |(f,b,i)=>gG (decide (b<=(N:Int))) λm=>gJ m (gB (Faq i f b c0 c1) λo=>gG (IntKind.i64.wrap (b+20)) λp=>j (b,p,o)) (some (f,i)))
  (λg=> ∃(a:Nat) (d:List Int),g=((a:Int),((a+20:Nat):Int),d)/\d.length=N/\d.Perm (ids N)/\20 ∣ a/\a<=N/\(∀u,20 ∣ u->u+20<=a->Good pr d u (u+20))/\seg d a N=seg (ids N) a N)
  (λg=>N+100-g.2.1.toNat)
  (λr=> ∃(a:Nat) (d:List Int),r=((a:Int),d)/\d.length=N/\d.Perm (ids N)/\20 ∣ a/\a<=N/\N<a+20/\(∀u,20 ∣ u->u+20<=a->Good pr d u (u+20))/\seg d a N=seg (ids N) a N)
  (λg B=>by
   obtain⟨a,d,rfl,l1,l2,t,C,y,w⟩:=B
   by_cases c:a+20<=N
   ·left
    have q:seg d a (a+20)=seg (ids N) a (a+20):=by
     rw [aIs (d:=d) (u:=a) (N:=N) (Nat.le_refl _) c,aIs (d:=ids N) (u:=a) (N:=N) (Nat.le_refl _) c,w]
    obtain⟨z,D,s,E⟩:=ins_op H (d:=d) (u:=a) (v:=a+20) (by omega) (by omega) (by omega) (by omega) (by rw [q];exact aWx ..) (by rw [q];exact aYg c);refine⟨(((a+20:Nat):Int),((a+20+20:Nat):Int),z),⟨a+20,z,rfl,s.len.trans l1,s.perm.trans l2,Nat.dvd_add t (Nat.dvd_refl _),c,λu A _=>?_,?_⟩,by simp only;omega,λk=>?_⟩
    ·by_cases e:u+20<=a
     ·exact(y u A e).keep s (by omega) (by omega) (.inl e)
     ·have:u=a:=by
       by_cases h:u<a
       ·exact absurd (pG t A h) e
       ·omega
      rw [this];exact E
    ·rw [s.other (a+20) N c (by omega) (.inr (Nat.le_refl _)),aIs (d:=d) (u:=a) (N:=N) (by omega) (Nat.le_refl _),aIs (d:=ids N) (u:=a) (N:=N) (by omega) (Nat.le_refl _),w]
    ·simp only [zK];rw [dT (by omega),zU,D,zC,Go.OB.wrap_i64 (n:=((a+20:Nat):Int)+20) (by omega) (by omega)]
     congr 2
   ·right
    refine⟨_,⟨a,d,rfl,l1,l2,t,C,by omega,y,w⟩,λk=>?_⟩;simp only [zK];rw [qD (by omega),zQ])
  (g:=(0,20,ids N)) ⟨0,ids N,rfl,aEc N,List.Perm.refl _,Nat.dvd_zero _,Nat.zero_le _,λu _ h=>by omega,rfl⟩ (by simp only;omega)
 obtain⟨r,G,a,d,rfl,I⟩:=h;exact⟨d,a,G,I⟩
theorem stage3 (H:aGm pr c0 c1 (N:Int)) (T:N<=500) {s:Nat} (X:1<=s) (s1:s<=500) {d0:List Int} (hd:d0.length=N) (L:d0.Perm (ids N)) (D:AG pr N s d0): ∃(d:List Int) (a:Nat),Fg1 (N:Int) c0 c1 (s:Int) (0,((2*s:Nat):Int),d0)=some ((a:Int),d)/\d.length=N/\d.Perm (ids N)/\2*s ∣ a/\a<=N/\N<a+2*s/\(∀u,2*s ∣ u->u+2*s<=a->Good pr d u (u+2*s))/\ ∀u,s ∣ u->a<=u->u<N->Good pr d u (min (u+s) N):=by
 have h:=uF (β:=Int×List Int) (body:=λo (x:Int×Int×List Int)=>match x with
  |(f,b,i)=>gG (decide (b<=(N:Int))) λp=>gJ p (gG (IntKind.i64.wrap (f+(s:Int))) λq=>gB (Faw i f q b c0 c1) λt=>gG (IntKind.i64.wrap (2*(s:Int))) λw=>gG (IntKind.i64.wrap (b+w)) λy=>o (b,y,t)) (some (f,i)))
  (λg=> ∃(a:Nat) (d:List Int),g=((a:Int),((a+2*s:Nat):Int),d)/\d.length=N/\d.Perm (ids N)/\2*s ∣ a/\a<=N/\(∀u,2*s ∣ u->u+2*s<=a->Good pr d u (u+2*s))/\ ∀u,s ∣ u->a<=u->u<N->Good pr d u (min (u+s) N))
  (λg=>N+2000-g.2.1.toNat)
  (λr=> ∃(a:Nat) (d:List Int),r=((a:Int),d)/\d.length=N/\d.Perm (ids N)/\2*s ∣ a/\a<=N/\N<a+2*s/\(∀u,2*s ∣ u->u+2*s<=a->Good pr d u (u+2*s))/\ ∀u,s ∣ u->a<=u->u<N->Good pr d u (min (u+s) N))
  (λg D=>by
   obtain⟨a,d,rfl,l1,l2,A,M,G,B⟩:=D;have z:s ∣ a:=Nat.dvd_trans (Nat.dvd_mul_left s 2) A
   by_cases c:a+2*s<=N
   ·left
    have I:=B a z (Nat.le_refl _) (by omega);have J:=B (a+s) (Nat.dvd_add z (Nat.dvd_refl _)) (by omega) (by omega);rw [show min (a+s) N=a+s by omega]at I;rw [show min (a+s+s) N=a+2*s by omega]at J;obtain⟨K,O,C,P⟩:=mrg_op H (d:=d) (u:=a) (m:=a+s) (v:=a+2*s) (by omega) (by omega) (by omega) (by omega) (by omega) I J;refine⟨(((a+2*s:Nat):Int),((a+2*s+2*s:Nat):Int),K),⟨a+2*s,K,rfl,C.len.trans l1,C.perm.trans l2,Nat.dvd_add A (Nat.dvd_refl _),c,λu j _=>?_,λu j E F=>?_⟩,by simp only;omega,λk=>?_⟩
    ·by_cases e:u+2*s<=a
     ·exact(G u j e).keep C (by omega) (by omega) (.inl e)
     ·have:u=a:=by
       by_cases h:u<a
       ·exact absurd (pG A j h) e
       ·omega
      rw [this];exact P
    ·exact(B u j (by omega) F).keep C (by omega) (by omega) (.inr E)
    ·simp only [zK];rw [dT (by omega),zU,Go.OB.wrap_i64 (n:=(a:Int)+(s:Int)) (by omega) (by omega),show(a:Int)+(s:Int)=((a+s:Nat):Int)by omega,O,zC,Go.OB.wrap_i64 (n:=2*(s:Int)) (by omega) (by omega),Go.OB.wrap_i64 (n:=((a+2*s:Nat):Int)+2*(s:Int)) (by omega) (by omega),show((a+2*s:Nat):Int)+2*(s:Int)=((a+2*s+2*s:Nat):Int)by omega]
   ·right
    refine⟨_,⟨a,d,rfl,l1,l2,A,M,by omega,G,B⟩,λk=>?_⟩;simp only [zK];rw [qD (by omega),zQ])
  (g:=(0,((2*s:Nat):Int),d0)) ⟨0,d0,by rw [Nat.zero_add];rfl,hd,L,Nat.dvd_zero _,Nat.zero_le _,λu _ h=>by omega,λu j _ h=>D u j h⟩ (by simp only;omega)
 obtain⟨r,R,a,d,rfl,S⟩:=h;exact⟨d,a,R,S⟩
end
section
variable {pr:Int->Int->Bool}{c0:List fB}{c1:Book}{N:Nat}
theorem stage2 (H:aGm pr c0 c1 (N:Int)) (P:N<=500) {d0:List Int} (hd:d0.length=N) (Q:d0.Perm (ids N)) (G:AG pr N 20 d0): ∃d:List Int,Fg3 (N:Int) c0 c1 (20,d0)=some d/\d.length=N/\d.Perm (ids N)/\Srd pr d:=by
 have h:=uF (β:=List Int) (body:=λA (x:Int×List Int)=>match x with
  |(b,i)=>gG (decide (b<(N:Int))) λB=>gJ B (gG (IntKind.i64.wrap (2*b)) λC=>gB (Fg1 (N:Int) c0 c1 b (0,C,i)) λ⟨j,o⟩=>gB (gG (IntKind.i64.wrap (j+b)) λp=>gG (decide (p<(N:Int))) λD=>gJ D (gB (Faw o j p (N:Int) c0 c1) λf=>some f) (some o)) λE=>gG (IntKind.i64.wrap (b*2)) λF=>A (F,E)) (some i))
  (λg=> ∃(s:Nat) (d:List Int),g=((s:Int),d)/\1<=s/\s<=1000/\d.length=N/\d.Perm (ids N)/\AG pr N s d)
  (λg=>2000-g.1.toNat)
  (λd=>d.length=N/\d.Perm (ids N)/\Srd pr d)
  (λg G=>by
   obtain⟨s,d,rfl,R,_,l1,l2,K⟩:=G
   by_cases c:s<N
   ·left
    obtain⟨d1,a,S,m1,m2,m3,m4,m5,m6,m7⟩:=stage3 H P R (by omega) l1 l2 K;have q:s ∣ a:=Nat.dvd_trans (Nat.dvd_mul_left s 2) m3;have t: ∃d2:List Int,(gJ (decide (((a+s:Nat):Int)<(N:Int))) (gB (Faw d1 (a:Int) ((a+s:Nat):Int) (N:Int) c0 c1) λf=>some f) (some d1))=some d2/\d2.length=N/\d2.Perm (ids N)/\AG pr N (2*s) d2:=by
     by_cases L:a+s<N
     ·have M:=m7 a q (Nat.le_refl _) (by omega);have O:=m7 (a+s) (Nat.dvd_add q (Nat.dvd_refl _)) (by omega) L;rw [show min (a+s) N=a+s by omega]at M;rw [show min (a+s+s) N=N by omega]at O;obtain⟨d2,T,I,X⟩:=mrg_op H (d:=d1) (u:=a) (m:=a+s) (v:=N) (by omega) L (by omega) (Int.le_refl _) (by omega) M O;refine⟨d2,by rw [dT (by omega),zU,T,zC],I.len.trans m1,I.perm.trans m2,λu w y=>?_⟩
      by_cases e:u+2*s<=a
      ·rw [show min (u+2*s) N=u+2*s by omega];exact(m6 u w e).keep I (by omega) (by omega) (.inl e)
      ·have z:u=a:=by
        by_cases h:u<a
        ·exact absurd (pG m3 w h) e
        ·by_cases J:a<u
         ·have:=pG w m3 J;omega
         ·omega
       rw [z,show min (a+2*s) N=N by omega];exact X
     ·refine⟨d1,by rw [qD (by omega),zQ],m1,m2,λu w y=>?_⟩
      by_cases e:u+2*s<=a
      ·rw [show min (u+2*s) N=u+2*s by omega];exact m6 u w e
      ·have z:u=a:=by
        by_cases h:u<a
        ·exact absurd (pG m3 w h) e
        ·by_cases J:a<u
         ·have:=pG w m3 J;omega
         ·omega
       rw [z]at y⊢;have:=m7 a q (Nat.le_refl _) y;rw [show min (a+s) N=N by omega]at this;rw [show min (a+2*s) N=N by omega];exact this
    obtain⟨d2,Y,n1,n2,n3⟩:=t;refine⟨(((2*s:Nat):Int),d2),⟨2*s,d2,rfl,by omega,by omega,n1,n2,n3⟩,by simp only;omega,λk=>?_⟩;simp only [zK];rw [dT (by omega),zU,Go.OB.wrap_i64 (n:=2*(s:Int)) (by omega) (by omega),show 2*(s:Int)=((2*s:Nat):Int)by omega,S,zC];simp only [];rw [Go.OB.wrap_i64 (n:=(a:Int)+(s:Int)) (by omega) (by omega),show(a:Int)+(s:Int)=((a+s:Nat):Int)by omega,Y,zC,Go.OB.wrap_i64 (n:=(s:Int)*2) (by omega) (by omega),show(s:Int)*2=((2*s:Nat):Int)by omega]
   ·right
    refine⟨d,⟨l1,l2,?_⟩,λk=>?_⟩
    ·by_cases h0:N=0
     ·have:d=[]:=List.eq_nil_of_length_eq_zero (by omega);rw [this];exact List.Pairwise.nil
     ·have:=(K 0 (Nat.dvd_zero _) (by omega)).s;rw [show min (0+s) N=N by omega,<-l1,seg_all]at this;exact this
    ·simp only [zK];rw [qD (by omega),zQ])
  (g:=(20,d0)) ⟨20,d0,rfl,by decide,by decide,hd,Q,G⟩ (by simp only;omega)
 obtain⟨d,h1,h2⟩:=h;exact⟨d,h1,h2⟩
theorem stable_ok (H:aGm pr c0 c1 (N:Int)) (i:N<=500): ∃d:List Int,Fcw (ids N) c0 c1=some d/\d.Perm (ids N)/\Srd pr d:=by
 obtain⟨d,a,j,m1,m2,m3,m4,m5,m6,m7⟩:=stage1 H i;obtain⟨d1,k,c,m⟩:=ins_op H (d:=d) (u:=a) (v:=N) m4 (by omega) (Int.le_refl _) (by omega) (by rw [m7];exact aWx ..) (by rw [m7];exact aYg (Nat.le_refl _));obtain⟨d2,o,-,p,q⟩:=stage2 H i (d0:=d1) (c.len.trans m1) (c.perm.trans m2) (λu f _=>by
  by_cases e:u+20<=a
  ·rw [show min (u+20) N=u+20 by omega];exact(m6 u f e).keep c (by omega) (by omega) (.inl e)
  ·have g:u=a:=by
    by_cases h:u<a
    ·exact absurd (pG m3 f h) e
    ·by_cases t:a<u
     ·have:=pG f m3 t;omega
     ·omega
   rw [g,show min (a+20) N=N by omega];exact m)
 refine⟨d2,?_,p,q⟩;unfold Fcw Feu;rw [zK,aEc,j,zC];show gB (gB (Faq d (a:Int) (N:Int) c0 c1) λb=>Fg3 (N:Int) c0 c1 (20,b)) _=_;rw [k,zC,o,zC]
end
def lexB {b:Type} [DecidableEq b] (a:Int->b)(lt:b->b->Bool)(c:Int->Int->Bool)(i k:Int):Bool:=lt (a i) (a k)||(decide (a i=a k)&&c i k)
structure SO {α:Type}(lt:α->α->Bool):Prop where
 irr: ∀x,lt x x=false
 tr: ∀x y z,lt x y=true->lt y z=true->lt x z=true
 tot: ∀x y,x≠y->lt x y=true\/lt y x=true
theorem aIk {d:Type} [DecidableEq d] {b:Int->d}{lt:d->d->Bool}{g:Int->Int->Bool} (h:SO lt) (f:SO g):SO (lexB b lt g) where
 irr x:=by unfold lexB;rw [h.irr,f.irr];simp
 tr x y z a c:=by
  unfold lexB at *
  rw [Bool.or_eq_true,Bool.and_eq_true,decide_eq_true_eq]at *
  rcases a with a|⟨i,a⟩<;>rcases c with c|⟨j,c⟩
  ·exact .inl (h.tr _ _ _ a c)
  ·rw [<-j];exact .inl a
  ·rw [i];exact .inl c
  ·exact .inr ⟨i.trans j,f.tr _ _ _ a c⟩
 tot x y hxy:=by
  unfold lexB;rw [Bool.or_eq_true,Bool.and_eq_true,decide_eq_true_eq,Bool.or_eq_true,Bool.and_eq_true,decide_eq_true_eq]
  by_cases e:b x=b y
  ·rcases f.tot x y hxy with a|a
   ·exact .inl (.inr ⟨e,a⟩)
   ·exact .inr (.inr ⟨e.symm,a⟩)
  ·rcases h.tot _ _ e with a|a
   ·exact .inl (.inl a)
   ·exact .inr (.inl a)
theorem aOl:SO λx y:Int=>decide (x<y) where
 irr x:=by simp
 tr x y z h1 h2:=by rw [decide_eq_true_eq]at *;omega
 tot x y h:=by rw [decide_eq_true_eq,decide_eq_true_eq];omega
theorem so_str:SO slt where
  irr:=uI
  tr x y z:=wZ x y z
  tot x y h:=by by_cases a:slt x y=true;exact .inl a;by_cases b:slt y x=true;exact .inr b;exact absurd (aFk x y (by simpa using a) (by simpa using b)) h
theorem cmpI (x y:Int):Fby x y=some (if x<y then-1 else if y<x then 1 else 0):=by
 unfold Fby Fdz;simp only [zK,zC,ne_eq,not_true,decide_false,zQ,yX];by_cases a:x<y;rw [if_pos a,if_pos a];rw [if_neg a,if_neg a];by_cases b:y<x;rw [if_pos b,if_pos b];rw [if_neg b,if_neg b]
theorem or4 (a b c d:Int):Fdf [a,b,c,d]=some (if a≠0 then a else if b≠0 then b else if c≠0 then c else d):=by
 unfold Fdf Fjy;simp only [zK,yO];rw [xY (β:=Int) [a,b,c,d] (λ_ x=>if x≠0 then some (some x)else none) (some 0) (by simp)];simp only [cZ];by_cases f:a≠0;rw [if_pos f,if_pos f];rw [if_neg f,if_neg f];by_cases e:b≠0;rw [if_pos e,if_pos e];rw [if_neg e,if_neg e];by_cases g:c≠0;rw [if_pos g,if_pos g];rw [if_neg g,if_neg g];by_cases j:d≠0;rw [if_pos j];rw [if_neg j];simp only [Decidable.not_not]at j;rw [j];intro k _ x f e;simp only [yK e,zU,yY f,zC,yX,fQ e (show([a,b,c,d]:List Int).length<=9223372036854775807 by simp)];by_cases h:x≠0;rw [if_pos h,if_pos h];rw [if_neg h,if_neg h];intro k;simp only [yN,zQ]
def noF:fB:=fB.mk [] 0 0 0 []
def fAt (l:List fB)(i:Int):fB:=l.getD i.toNat noF
def mdB (b:Book)(f:fB):Bool:=f.Words.any λw=>decide (stN (aJ b.Rests w.Number) w.Word=2)
def mdI (b:Book)(f:fB):Int:=if mdB b f=true then 1 else 0
def prM (b:Book)(l:List fB):Int->Int->Bool:=
 lexB (λi=>mdI b (fAt l i)) (λx y=>decide (x<y))<|lexB (λi=>((fAt l i).Words.length:Int)) (λx y=>decide (x<y))<|
  lexB (λi=>(fAt l i).Rule) slt<|lexB (λi=>(fAt l i).Number) (λx y=>decide (x<y)) λi k=>decide (i<k)
theorem prM_eq (b:Book)(l:List fB)(u v:Int):prM b l u v=(decide (mdI b (fAt l u)<mdI b (fAt l v))||decide (mdI b (fAt l u)=mdI b (fAt l v))&&(decide (((fAt l u).Words.length:Int)<((fAt l v).Words.length:Int))||decide (((fAt l u).Words.length:Int)=((fAt l v).Words.length:Int))&&(slt (fAt l u).Rule (fAt l v).Rule||decide ((fAt l u).Rule=(fAt l v).Rule)&&(decide ((fAt l u).Number<(fAt l v).Number)||decide ((fAt l u).Number=(fAt l v).Number)&&decide (u<v))))):=rfl
theorem aJu (b:Book)(l:List fB):SO (prM b l):=aIk aOl (aIk aOl (aIk so_str (aIk aOl aOl)))
structure aMj (f:fB):Prop where
 n:f.Words.length<=9223372036854775807
 all:f.Words.any rD=false
theorem aMj.r {f:fB}(h:aMj f){w:fC}(a:w∈f.Words):0<=w.Number/\w.Number<=4194303/\0<=w.Word/\w.Word<=63:=by
 have:rD w=false:=by
  cases hb:rD w with
  |false=>rfl
  |true=>exact absurd (List.any_eq_true.2 ⟨w,a,hb⟩) (by rw [h.all];decide)
 unfold rD at this;rw [Bool.or_eq_false_iff,aBm,aBm]at this;omega
theorem aRo {b:Book}(e:aAy b.Rests){f:fB}(a:aMj f):Fb5 b f=some (mdI b f):=by
 unfold Fb5 Ff9 Fgv Fhx;rw [yO,zK,jS f.Words (λw=>decide (stN (aJ b.Rests w.Number) w.Word=2)) a.n (λk _ _ c d=>by
  obtain⟨g,h,j,m⟩:=a.r (qS c);simp only [zK,yK d,zU,yY c,zC,fQ d a.n,Ff7,state_l e g h j m]) (λk=>by simp only [zK,yN,zQ]),zC,zK,qA,zC]
 unfold mdI mdB
 cases f.Words.any λw=>decide (stN (aJ b.Rests w.Number) w.Word=2)<;>rfl
theorem aSa {b:Book}(e:aAy b.Rests){f:fB}(a:aMj f):Fbt b f=some (mdB b f):=by
 unfold Fbt Fio;rw [yO,aZ f.Words (λw=>decide (stN (aJ b.Rests w.Number) w.Word=2)) (some true) (some false) a.n (λk _ _ c d=>by
  obtain⟨_,_,g,h⟩:=a.r (qS c);simp only [zK,yK d,zU,yY c,zC,fQ d a.n,state_7 e g h]) (λk=>by simp only [zK,yN,zQ])]
 unfold mdB
 cases f.Words.any λw=>decide (stN (aJ b.Rests w.Number) w.Word=2)<;>rfl
theorem mdI_r (b:Book)(f:fB):mdI b f=0\/mdI b f=1:=by unfold mdI;split<;>simp
theorem f_at {l:List fB}{i:Int}(b:0<=i)(c:i<(l.length:Int)):at' l i=some (fAt l i)/\fAt l i∈l:=by
 obtain⟨n,rfl⟩: ∃n:Nat,i=(n:Int):=⟨i.toNat,by omega⟩;have a:n<l.length:=by omega
 have e:fAt l (n:Int)=l[n]:=by unfold fAt;rw [Int.toNat_natCast,List.getD_eq_getElem?_getD,gE a];rfl
 rw [e];exact⟨yY (gE a),List.getElem_mem a⟩
theorem cmp_ok {b:Book} (j:aAy b.Rests) {l:List fB} (k: ∀f∈l,aMj f) {u v:Int} (w:0<=v) (C:v<u) (z:u<(l.length:Int)):
  ∃c,Fad u v l b=some c/\decide (c<0)=prM b l u v:=by
 obtain⟨A,m1⟩:=f_at (l:=l) (i:=u) (by omega) z;obtain⟨a2,m2⟩:=f_at (l:=l) (i:=v) w (by omega);have D:=mdI_r b (fAt l u);have E:=mdI_r b (fAt l v);unfold Fad;simp only [A,a2,zC,aRo j (k _ m1),aRo j (k _ m2),zK,cmpI,Fhl,or4];refine⟨_,rfl,?_⟩;rw [Go.OB.wrap_i64 (n:=mdI b (fAt l u)-mdI b (fAt l v)) (by omega) (by omega)];rw [prM_eq];generalize mdI b (fAt l u)=p at *
 generalize mdI b (fAt l v)=q at *
 generalize ((fAt l u).Words.length:Int)=s;generalize ((fAt l v).Words.length:Int)=t;generalize (fAt l u).Number=x;generalize (fAt l v).Number=y;have a:=uI (fAt l u).Rule;have B:slt (fAt l u).Rule (fAt l v).Rule=true->slt (fAt l v).Rule (fAt l u).Rule=false:=λh=>by
  cases h':slt (fAt l v).Rule (fAt l u).Rule with
  |false=>rfl
  |true=>rw [wZ _ _ _ h h']at a;cases a
 have d:=aFk (fAt l u).Rule (fAt l v).Rule;generalize (fAt l u).Rule=m at *
 generalize (fAt l v).Rule=n at *
 rw [qD (show¬u<v by omega)]
 by_cases c1:p=q
 ·subst c1;rw [if_neg (show¬p-p≠0 by omega),qD (show¬p<p by omega),dT (rfl:p=p),Bool.false_or,Bool.true_and]
  by_cases c2:s=t
  ·subst c2;rw [if_neg (show¬s<s by omega),if_neg (show¬s<s by omega),if_neg (show¬(0:Int)≠0 by omega),qD (show¬s<s by omega),dT (rfl:s=s),Bool.false_or,Bool.true_and]
   by_cases c3:slt m n=true
   ·rw [if_pos c3,if_pos (show(-1:Int)≠0 by decide),c3];rfl
   ·have g:slt m n=false:=by simpa using c3
    rw [if_neg c3,g]
    by_cases c4:slt n m=true
    ·rw [if_pos c4,if_pos (show(1:Int)≠0 by decide),qD (show¬m=n from λe=>by subst e;exact c3 c4)];rfl
    ·have e:=d (by simpa using c3) (by simpa using c4);rw [if_neg c4,if_neg (show¬(0:Int)≠0 by omega),dT e,Bool.false_or,Bool.true_and,Bool.and_false,Bool.or_false]
     by_cases c5:x<y
     ·rw [if_pos c5,dT c5];rfl
     ·rw [if_neg c5,qD c5]
      by_cases o:y<x
      ·rw [if_pos o];rfl
      ·rw [if_neg o];rfl
  ·rw [qD c2,Bool.false_and,Bool.or_false]
   by_cases c3:s<t
   ·rw [if_pos c3,if_pos (show(-1:Int)≠0 by decide),dT c3];rfl
   ·rw [if_neg c3,if_pos (show t<s by omega),if_pos (show(1:Int)≠0 by decide),qD c3];rfl
 ·rw [if_pos (show p-q≠0 by omega),qD c1,Bool.false_and,Bool.or_false]
  by_cases c2:p<q
  ·rw [dT c2,dT (show p-q<0 by omega)]
  ·rw [qD c2,qD (show¬p-q<0 by omega)]
theorem ahead_ok {b:Book} (d:aAy b.Rests) {l:List fB} (e: ∀f∈l,aMj f) {u v:Int} (g:0<=v) (k:v<u) (j:u<(l.length:Int)):
  Fb4 b (fAt l u) (fAt l v)=some (prM b l u v):=by
 obtain⟨_,m1⟩:=f_at (l:=l) (i:=u) (by omega) j;obtain⟨a2,m2⟩:=f_at (l:=l) (i:=v) g (by omega);unfold Fb4;simp only [zC,aSa d (e _ m1),aSa d (e _ m2),zK];rw [prM_eq];unfold mdI;generalize mdB b (fAt l u)=p;generalize mdB b (fAt l v)=q;generalize ((fAt l u).Words.length:Int)=s;generalize ((fAt l v).Words.length:Int)=t;generalize (fAt l u).Number=x;generalize (fAt l v).Number=y;have c:=uI (fAt l u).Rule;generalize (fAt l u).Rule=m at *
 generalize (fAt l v).Rule=n at *
 rw [qD (show¬u<v by omega)];have a:gJ (decide (s≠t)) (some (decide (s<t))) (gJ (decide (m≠n)) (some (slt m n)) (some (decide (x<y))))=some (decide (s<t)||decide (s=t)&&(slt m n||decide (m=n)&&(decide (x<y)||decide (x=y)&&false))):=by
  by_cases c1:s=t
  ·subst c1;rw [qD (show¬s≠s by omega),zQ,qD (show¬s<s by omega),dT (rfl:s=s),Bool.false_or,Bool.true_and]
   by_cases c2:m=n
   ·subst c2;rw [qD (show¬m≠m from λh=>h rfl),zQ,c,dT (rfl:m=m),Bool.false_or,Bool.true_and,Bool.and_false,Bool.or_false]
   ·rw [dT c2,zU,qD c2,Bool.false_and,Bool.or_false]
  ·rw [dT c1,zU,qD c1,Bool.false_and,Bool.or_false]
 cases p<;>cases q
 ·simp only [beq_self_eq_true,Bool.not_true,zQ];rw [a];rfl
 ·rfl
 ·rfl
 ·simp only [beq_self_eq_true,Bool.not_true,zQ];rw [a];rfl
theorem ord2_ok {b:Book}(a:aAy b.Rests){l:List fB}(c: ∀f∈l,aMj f):aGm (prM b l) l b (l.length:Int) where
 cmp _ _ h0 h1 h2:=cmp_ok a c h0 h1 h2
 irr:=(aJu b l).irr
 tr x y z _ _ _ _ _ _:=(aJu b l).tr x y z
 tot x y _ _ _ _:=(aJu b l).tot x y
theorem aWj {pr:Int->Int->Bool} (a:SO pr): ∀{l m:List Int},Srd pr l->Srd pr m->l.Perm m->l=m
 | [],m,_,_,h=>(List.nil_perm.1 h).symm
 |x::l,[],_,_,h=>absurd h.length_eq (by simp)
 |x::l,y::m,b,hm,h=>by
  obtain⟨l1,l2⟩:=List.pairwise_cons.1 b;obtain⟨m1,m2⟩:=List.pairwise_cons.1 hm;have e:x=y:=by
   rcases List.mem_cons.1 (h.mem_iff.1 (List.mem_cons_self ..))with e|c
   ·exact e
   ·rcases List.mem_cons.1 (h.mem_iff.2 (List.mem_cons_self ..))with e|d
    ·exact e.symm
    ·have:=a.tr _ _ _ (m1 x c) (l1 y d);rw [a.irr]at this;cases this
  subst e;rw [aWj a l2 m2 (List.perm_cons x|>.1 h)]
theorem bubble7 {b:Book} (hb:aAy b.Rests) {l:List fB} (hf: ∀f∈l,aMj f) (S:List Int) (x:Int) (z:0<=x/\x<(l.length:Int)) (hS:InR (l.length:Int) S) (A:Srd (prM b l) S) (p: ∀u∈S,u<x) (hn:S.length<=100000):
  ∃B,Fej b l ((S.length:Int),S++[x])=some B/\B.Perm (S++[x])/\Srd (prM b l) B:=by
 have H:=aJu b l;have s:=List.pairwise_iff_getElem.1 A;obtain⟨K,_,_,R,T⟩:=aKl (λi=>match S[i]? with |some u=> !prM b l x u|none=>false) S.length 0 S.length (by omega) (by omega) (λc C _ y X Y=>by
  have g:S[c]? =some S[c]:=gE (by omega);have D:S[C]? =some S[C]:=gE X;simp only [g,Bool.not_eq_false']at Y;simp only [D,Bool.not_eq_false'];exact H.tr _ _ _ Y (s c C (by omega) X y))
 have w:=(f_at z.1 z.2).1;have m: ∀(i:Nat) (h:i<S.length),at' l S[i]=some (fAt l S[i])/\Fb4 b (fAt l x) (fAt l S[i])=some (!decide (i<K)):=by
  intro i h;have q:=hS S[i] (List.getElem_mem h);refine⟨(f_at q.1 q.2).1,?_⟩;rw [ahead_ok hb hf q.1 (p _ (List.getElem_mem h)) z.2];have g:S[i]? =some S[i]:=gE h
  by_cases E:i<K
  ·have:=R i (by omega) E;simp only [g,Bool.not_eq_true']at this;rw [this,dT E];rfl
  ·have:=T i (by omega) h;simp only [g,Bool.not_eq_false']at this;rw [this,qD E];rfl
 have F:(S.take K).length=K:=by rw [List.length_take];omega
 have G:Fej b l ((S.length:Int),S++[x])=some (S.take K++x::S.drop K):=by
  unfold Fej;refine xO (λt=>((S.length:Int)-(t:Int),S.take (S.length-t)++x::S.drop (S.length-t))) (S.length-K) (by omega) (by simp) (λk t h=>?_) (λk=>?_)
  ·obtain⟨q,hq⟩: ∃q,S.length-t=q+1:=⟨S.length-t-1,by omega⟩;have I:S.length-(t+1)=q:=by omega
   have d:q<S.length:=by omega
   have hd:S.drop q=S[q]::S.drop (q+1):=List.drop_eq_getElem_cons d;have a:(S.take q).length=q:=by rw [List.length_take];omega
   have g:S.take (q+1)++x::S.drop (q+1)=S.take q++S[q]::([]++x::S.drop (q+1)):=by
    simp only [bF (gE d),List.append_assoc,List.cons_append,List.nil_append]
   have D:S.take q++x::S.drop q=S.take q++x::([]++S[q]::S.drop (q+1)):=by
    rw [hd,List.nil_append]
   have o:(S.length:Int)-(t:Int)=(q:Int)+1:=by omega
   have J:(S.length:Int)-((t+1:Nat):Int)=(q:Int):=by omega
   obtain⟨s1,s2,_,_,_⟩:=uS (S.take q) S[q] [] x (S.drop (q+1)) (i:=(q:Int)) (j:=(q:Int)+1) (by rw [a]) (by rw [a,List.length_nil];omega);have r1:set' (S.take q++S[q]::([]++x::S.drop (q+1))) ((q:Int)+1) S[q]=some (S.take q++S[q]::([]++S[q]::S.drop (q+1))):=by
    have:=aHl (S.take q++[S[q]]) x S[q] (S.drop (q+1)) (i:=(q:Int)+1) (by rw [List.length_append,a,List.length_singleton];omega);simp only [List.append_assoc,List.cons_append,List.nil_append]at this⊢;exact this
   have r2:at' (S.take q++S[q]::([]++S[q]::S.drop (q+1))) (q:Int)=some S[q]:=aRs (S.take q) S[q] _ (by rw [a]);have r3:set' (S.take q++S[q]::([]++S[q]::S.drop (q+1))) (q:Int) x=some (S.take q++x::([]++S[q]::S.drop (q+1))):=aHl (S.take q) S[q] x _ (by rw [a]);obtain⟨L,z2⟩:=m q d;simp only [zK];rw [hq,I,g,D,o,J,dT (show(0:Int)<(q:Int)+1 by omega),zU,Go.OB.wrap_i64 (n:=(q:Int)+1-1) (by omega) (by omega),show(q:Int)+1-1=(q:Int)by omega,s2,zC,w,zC,s1,zC,L,zC,z2,qD (show¬q<K by omega),zC,zC,Bool.not_false,zU,zC,zC,zC,r1,zC,r2,zC,r3,zC]
  ·rw [show S.length-(S.length-K)=K by omega];simp only [zK]
   by_cases h0:K=0
   ·rw [qD (show¬(0:Int)<(S.length:Int)-((S.length-K:Nat):Int)by omega),zQ,zC,zQ]
   ·obtain⟨q,rfl⟩: ∃q,K=q+1:=⟨K-1,by omega⟩;have d:q<S.length:=by omega
    have a:(S.take q).length=q:=by rw [List.length_take];omega
    have g:S.take (q+1)++x::S.drop (q+1)=S.take q++S[q]::([]++x::S.drop (q+1)):=by
     simp only [bF (gE d),List.append_assoc,List.cons_append,List.nil_append]
    have o:(S.length:Int)-((S.length-(q+1):Nat):Int)=(q:Int)+1:=by omega
    obtain⟨s1,s2,-⟩:=uS (S.take q) S[q] [] x (S.drop (q+1)) (i:=(q:Int)) (j:=(q:Int)+1) (by rw [a]) (by rw [a,List.length_nil];omega);obtain⟨L,z2⟩:=m q d;rw [o,dT (show(0:Int)<(q:Int)+1 by omega),zU,Go.OB.wrap_i64 (n:=(q:Int)+1-1) (by omega) (by omega),show(q:Int)+1-1=(q:Int)by omega];rw [g,s2,zC,w,zC,s1,zC,L,zC,z2,dT (show q<q+1 by omega),zC,zC,Bool.not_true,zQ]
 refine⟨S.take K++x::S.drop K,G,?_,?_⟩
 ·have y:(S.take K++x::S.drop K).Perm (x::(S.take K++S.drop K)):=List.perm_middle;rw [List.take_append_drop]at y;exact y.trans (List.perm_append_singleton x S).symm
 ·unfold Srd;rw [List.pairwise_append,List.pairwise_cons];refine⟨List.Pairwise.sublist (List.take_sublist _ _) A,⟨λu M=>?_,List.Pairwise.sublist (List.drop_sublist _ _) A⟩,λu M v O=>?_⟩
  ·obtain⟨i,hi,rfl⟩:=List.mem_iff_getElem.1 M;rw [List.length_drop]at hi;rw [List.getElem_drop];have g:S[K+i]? =some S[K+i]:=gE (by omega);have q:=T (K+i) (by omega) (by omega);simp only [g,Bool.not_eq_false']at q;exact q
  ·obtain⟨i,hi,rfl⟩:=List.mem_iff_getElem.1 M;rw [F]at hi;rw [List.getElem_take];rcases List.mem_cons.1 O with rfl|O
   ·have g:S[i]? =some S[i]:=gE (by omega);have q:=R i (by omega) hi;simp only [g,Bool.not_eq_true']at q;have P:=List.getElem_mem (l:=S) (n:=i) (by omega);have Q:S[i]≠v:=λ_=>by have:=p _ P;omega
    rcases H.tot S[i] v Q with h|h
    ·exact h
    ·rw [h]at q;cases q
   ·obtain⟨j,hj,rfl⟩:=List.mem_iff_getElem.1 O;rw [List.length_drop]at hj;rw [List.getElem_drop];exact s i (K+j) (by omega) (by omega) (by omega)
theorem ids_S (t:Nat):ids (t+1)=ids t++[(t:Int)]:=by unfold ids;rw [List.range_succ,List.map_append];rfl
theorem ids_in {N:Nat}{x:Int}(h:x∈ids N):0<=x/\x<(N:Int):=by
 unfold ids at h;obtain⟨_,hi,rfl⟩:=List.mem_map.1 h;have:=List.mem_range.1 hi;omega
theorem app8 (p:List Int)(x:Int)(h:p.length<=1000):app' 8 p [x]=some (p++[x]):=by
 unfold app';rw [if_pos];rw [maxLen_eq,List.length_singleton];omega
theorem order7 {b:Book} (p:aAy b.Rests) {l:List fB} (q: ∀f∈l,aMj f) (w:l.length<=500):
  ∃d,Fes b l ([],0)=some d/\d.Perm (ids l.length)/\Srd (prM b l) d:=by
 unfold Fes;simp only [zK];refine uF (λg=> ∃(t:Nat) (S:List Int),t<=l.length/\g=(S,(t:Int))/\S.Perm (ids t)/\Srd (prM b l) S) (λg=>l.length-g.2.toNat) _ ?_ ⟨0,[],Nat.zero_le _,rfl,List.Perm.refl _,List.Pairwise.nil⟩ (by simp only;omega);rintro g ⟨t,S,_,rfl,a,c⟩;have i:S.length=t:=by rw [a.length_eq,aEc]
 by_cases e:t=l.length
 ·right
  refine⟨S,⟨by rw [<-e];exact a,c⟩,λk=>?_⟩;simp only;rw [qD (by omega),zQ]
 ·left
  have h:t<l.length:=by omega
  obtain⟨m,o,s,v⟩:=bubble7 p q S (t:Int) ⟨by omega,by omega⟩ (λu j=>by
   have:=ids_in (a.mem_iff.1 j);omega) c (λu j=>(ids_in (a.mem_iff.1 j)).2) (by omega)
  rw [i]at o;refine⟨(m,((t+1:Nat):Int)),⟨t+1,m,h,rfl,?_,v⟩,by simp only;omega,λk=>?_⟩
  ·rw [ids_S];exact s.trans (a.append_right _)
  ·simp only;rw [dT (by omega),zU,app8 S _ (by omega),zC,o,zC,fQ h (by omega)]
theorem any_loopS {b β c:Type}{body:(c->Option β)->c->Option β}(a:Nat->c)(l:List b)(p:b->Bool)(r fin:Option β)(f:l.length<=9223372036854775807)
  (h: ∀k (i:Nat) x,l[i]? =some x->i<l.length->body k (a i)=gJ (p x) r (k (a (i+1))))(g: ∀k,body k (a l.length)=fin):gY body (a 0)=gJ (l.any p) r fin:=by
 have d:gY body (a 0)=aP (λ_ x _=>if p x=true then .inr r else .inl ()) (λ_=>fin) l 0 ():=by
  refine jZ (λ(i:Nat) (_:Unit)=>a i) l _ _ f (λk i s x e=>?_) (λk s=>g k) ();rw [h k i x e (gS.1 e).1]
  cases p x<;>rfl
 rw [d];have: ∀(l:List b) (i:Nat),aP (λ_ x _=>if p x=true then .inr r else .inl ()) (λ_=>fin) l i ()=gJ (l.any p) r fin:=by
  intro l
  induction l with
  |nil=>intro i;rfl
  |cons x l j=>
   intro i;rw [aP,List.any_cons]
   cases p x with
   |true=>rfl
   |false=>exact j (i+1)
 exact this l 0
theorem where_l (w:fC):Fdi w=some (if rD w=true then 9 else 0):=by
 simp only [zK,zC,Fdi,fwi,nwi,wB];show gJ (rD w) (some 9) (some 0)=_;cases rD w<;>rfl
theorem badL (l:List fB) (o:l.length<=500) (g: ∀f∈l,f.Words.length<=9223372036854775807) (k:List Int->Option (List Int×Int)):
    Fhe l k (l.length:Int) ([],0)=gJ (l.any λf=>f.Words.any rD) (some ([],9)) (k (ids l.length)):=by
 unfold Fhe;refine any_loopS (λi=>(ids i,(i:Int))) l _ _ _ (by omega) (λa i f b c=>?_) (λa=>?_);have d:=g f (qS b);simp only [zK,yO];rw [yK c,zU,yY b,zC];unfold Fh8;rw [aZ f.Words rD (some ([],9)) (a (ids (i+1),((i+1:Nat):Int))) d (λh _ w m e=>?_) (λh=>?_)];simp only [zK,yK e,zU,yY m,zC,fQ e d,where_l];cases rD w<;>rfl;simp only [zK];rw [yN,zQ,app8 (ids i) _ (by rw [aEc];omega),zC,fQ c (by omega),ids_S];simp only [zK];rw [yN,zQ]
theorem bad7 (l:List fB) (e:l.length<=500) (c: ∀f∈l,f.Words.length<=9223372036854775807) (k:Unit->Option (List Int×Int)):
    Fg7 l k 0=gJ (l.any λf=>f.Words.any rD) (some ([],9)) (k ()):=by
 unfold Fg7;refine aZ l _ _ _ (by omega) (λd _ f a b=>?_) (λd=>?_);simp only [zK];rw [yK b,zU,yY a,zC,wf_7 _ (c f (qS a)),zC,fQ b (by omega)];cases f.Words.any rD<;>rfl;simp only [zK];rw [yN,zQ]
theorem ints_ex {l:List Int}(d:l.length<=500)(e:Int): ∃s,Fb3 l e=some s:=by
 obtain⟨q,a,g1⟩:=ink_Ints (gZ.mk []) l (b:=0) (Nat.le_refl _) (by omega);obtain⟨r,c,-⟩:=aPv (gZ.mk q.out) e g1 (by omega);unfold Fb3 Fft Ff3;rw [a,zC,c];exact⟨_,rfl⟩
theorem order_two {b:Book} (i:SzB b) {l:List fB} (g: ∀f∈l,f.Words.length<=9223372036854775807) (t:l.length<=9223372036854775807):
  ∃r:List Int×Int,Fdv b l=some r/\Fcu b l=some r/\r.1.length<=500:=by
 obtain⟨e,j,k,m⟩:=book_two i;unfold Fdv Fcu;simp only [zK,yO];rw [j,k,zC,zC]
 by_cases c:e=0
 ·subst c;rw [qD (show¬(0:Int)≠0 by omega),zQ,zQ]
  by_cases c2:500<l.length
  ·rw [dT (show(500:Int)<(l.length:Int)by omega),zU,zU];exact⟨_,rfl,rfl,by simp⟩
  ·rw [qD (show¬(500:Int)<(l.length:Int)by omega),zQ,zQ,badL l (by omega) g,bad7 l (by omega) g]
   cases c3:l.any λf=>f.Words.any rD with
   |true=>exact⟨_,rfl,rfl,by simp⟩
   |false=>
    have h:=(m rfl).1.rs;have a: ∀f∈l,aMj f:=λf a=>⟨g f a,by
     cases q:f.Words.any rD with
     |false=>rfl
     |true=>exact absurd (List.any_eq_true.2 ⟨f,a,q⟩) (by rw [c3];decide)⟩
    obtain⟨_,d1,d2,d3⟩:=stable_ok (ord2_ok h a) (by omega);obtain⟨_,o,p,s⟩:=order7 h a (by omega);obtain rfl:=aWj (aJu b l) d3 s (d2.trans p.symm);rw [zQ,zQ,d1,o,zC];exact⟨_,rfl,rfl,by rw [d2.length_eq,aEc];omega⟩
 ·rw [dT (show e≠0 from c),zU,zU];exact⟨_,rfl,rfl,by simp⟩
theorem order_law {b:Book}(c:SzB b){l:List fB}(d: ∀f∈l,f.Words.length<=9223372036854775807)(e:l.length<=9223372036854775807)(a:Fc7=some true):Feb b l=some true:=by
 obtain⟨r,g,h,i⟩:=order_two c d e;obtain⟨_,j⟩:=ints_ex i r.2;unfold Feb;simp only [g,h,j,zC,zK,decide_true,zU,a]
theorem law_Order (b:Book)(l:List fB)(c:aVm b)(a:okL (λx=>aGc x) l):Feb b l=some true:=
 order_law (szB c) (λf d=>(a.2 f d).2.2.2.2.1) a.1 aUg
end Go.Lf
