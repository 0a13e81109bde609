/- Laws that the claim stands on; no condition beyond those stated. -/
import Derived.Test.YtolnigkhnidkoacGreatDoorUP
import Derived.Test.YtolnigkhnidkoacGreatDoorPLb
namespace Go.Fr1

def aAk:Nat->Nat->Nat
 |0,_=>0
 |f+1,n=>n%2+aAk f (n/2)
def pop (n:Nat):Nat:=aAk 16 n
def aIj (n:Nat):Prop:=pop n%2=1
instance (n:Nat):Decidable (aIj n):=by unfold aIj;exact inferInstance

theorem aJa: ∀(f n:Nat),aAk f n<=f
 |0,_=>Nat.le_refl _
 |f+1,n=>by have:=aJa f (n/2);have:=Nat.mod_lt n (show 0<2 by decide);unfold aAk;omega
theorem aKr: ∀(a b n:Nat),aAk (a+b) n=aAk a (n%2^a)+aAk b (n/2^a)
 |0,b,n=>by simp [aAk]
 |a+1,b,n=>by
  have c:=aKr a b (n/2);rw [show a+1+b=(a+b)+1 by omega,aAk,aAk,c];have d:n/2%2^a=n%2^(a+1)/2:=by
   rw [Nat.pow_succ,Nat.mul_comm,Nat.mod_mul_right_div_self]
  have e:n/2/2^a=n/2^(a+1):=by
   rw [Nat.div_div_eq_div_mul,Nat.pow_succ,Nat.mul_comm]
  have f:n%2^(a+1)%2=n%2:=Nat.mod_mod_of_dvd _ ⟨2^a,by rw [Nat.pow_succ,Nat.mul_comm]⟩;rw [d,e,f];omega
theorem aNt: ∀f,aAk f 0=0
 |0=>rfl
 |f+1=>by simp [aAk,aNt f]

theorem pop_eq {n:Nat}:aAk 8 (n/256)+aAk 8 (n%256)=pop n:=by
 have:=aKr 8 8 n;unfold pop;simp at this;omega

def wd (f:List Nat)(i:Nat):Nat:=f.getD i 0
def Small (f:List Nat):Prop:= ∀i,wd f i<65536
def aBk (f:List Nat):Nat:=wd f 1%2048+wd f 2%2048*2048
def aNp (f:List Nat):Nat->Nat
 |0=>0
 |k+1=>aNp f k^^^(wd f (k+1)%2048)
def aHl (f:List Nat):Nat:=aNp f 60
theorem aMc (f:List Nat): ∀k,aNp f k<2048
 |0=>by simp [aNp]
 |k+1=>by
  have a:=aMc f k;have b:wd f (k+1)%2048<2048:=Nat.mod_lt _ (by decide);exact Nat.xor_lt_two_pow (n:=11) a b
def qZ (n b:Nat):Nat:=if decide (2097152<=n)==decide (b=1)then n*2%4194304 else(n*2%4194304)^^^2097167
def jV (n w:Nat):Nat->Nat
 |0=>n
 |j+1=>qZ (jV n w j) (w/2^(11-j)%2)
def aFz (f:List Nat):Nat->Nat
 |0=>0
 |k+1=>jV (aFz f k) (wd f k) 12
def checkN (f:List Nat):Nat:=aFz f 62
theorem aWd (n b:Nat):qZ n b<4194304:=by
 unfold qZ;have h:n*2%4194304<4194304:=Nat.mod_lt _ (by decide);split;exact h;exact Nat.xor_lt_two_pow (n:=22) h (by decide)
theorem aKt {n w:Nat}(h:n<4194304): ∀j,jV n w j<4194304
 |0=>h
 |_+1=>aWd _ _
theorem aSt (f:List Nat): ∀k,aFz f k<4194304
 |0=>by simp [aFz]
 |k+1=>aKt (aSt f k) 12
theorem aTr {n b:Nat}(h:(!(decide (2097152<=n)==decide (b=1)))=false):qZ n b=n*2%4194304:=by
 unfold qZ;rw [if_pos (by simpa using h)]
theorem aWc {n b:Nat}(h:(!(decide (2097152<=n)==decide (b=1)))=true):qZ n b=(n*2%4194304)^^^2097167:=by
 unfold qZ;rw [if_neg (by simpa using h)]
theorem aVh {n w j:Nat}(h:(!(decide (2097152<=jV n w j)==decide (w/2^(11-j)%2=1)))=false):jV n w (j+1)=jV n w j*2%4194304:=aTr h
theorem aTt {n w j:Nat}(h:(!(decide (2097152<=jV n w j)==decide (w/2^(11-j)%2=1)))=true):jV n w (j+1)=(jV n w j*2%4194304)^^^2097167:=aWc h
def aHy (f:List Nat):Prop:= ∃i,i<64/\4095<wd f i
instance (f:List Nat):Decidable (aHy f):=by unfold aHy;exact inferInstance
theorem upto_succ {P:Nat->Prop}{k:Nat}(h: ∀i,i<k->P i)(b:P k): ∀i,i<k+1->P i:=λi hi=>by
 rcases Nat.lt_succ_iff_lt_or_eq.1 hi with a|a
 ·exact h i a
 ·subst a;exact b
def tab:List Nat:=[583,1464,2631,3512]
theorem aXw (f:List Nat):aBk f<4194304:=by unfold aBk;omega
def okD (x:Int):Prop:=0<=x/\x<=2047
instance (x:Int):Decidable (okD x):=by unfold okD;exact inferInstance
def okAll (d:List Int):Prop:= ∀i,i<58->okD (d.getD i 0)
instance (d:List Int):Decidable (okAll d):=decidable_of_iff (¬ ∃i,i<58/\ ¬okD (d.getD i 0)) ⟨λh i hi=>Decidable.byContradiction λhn=>h ⟨i,hi,hn⟩,λh ⟨i,hi,hn⟩=>hn (h i hi)⟩
def qJ (n:Nat):Prop:=n<=4095/\aIj n
instance (n:Nat):Decidable (qJ n):=by unfold qJ;exact inferInstance
theorem notwide {f:List Nat} (b:f.length=64) (h: ¬aHy f) (i:Nat):wd f i<4096:=by
 by_cases hi:i<64;have q: ¬4095<wd f i:=λa=>h ⟨i,hi,a⟩;omega;unfold wd;rw [List.getD_eq_getElem?_getD,List.getElem?_eq_none (by omega)];simp
def zst (n:Nat):Nat:=(n*2%4194304)^^^(if 2097152<=n then 2097167 else 0)
theorem two_xor (x y:Nat):(x^^^y)*2=(x*2)^^^(y*2):=by
 have h:=Nat.shiftLeft_xor_distrib (a:=x) (b:=y) (i:=1);simpa [Nat.shiftLeft_eq]using h
theorem aUr {n:Nat}(_:n<4194304):n*2%4194304=n%2097152*2:=by omega
theorem aUd {n:Nat}:zst n<4194304:=by
 unfold zst;refine Nat.xor_lt_two_pow (n:=22) (Nat.mod_lt _ (by decide)) ?_;split<;>decide
theorem zst_xor {x y:Nat}(k:x<4194304)(l:y<4194304):zst (x^^^y)=zst x^^^zst y:=by
 have j:x^^^y<4194304:=Nat.xor_lt_two_pow (n:=22) k l;have m:(x^^^y)%2097152=x%2097152^^^y%2097152:=Nat.xor_mod_two_pow (n:=21);have e:(x^^^y)/2097152=x/2097152^^^y/2097152:=Nat.xor_div_two_pow (n:=21);unfold zst;rw [aUr k,aUr l,aUr j,m,two_xor];generalize x%2097152*2=p;generalize y%2097152*2=q;have f:x/2097152=0\/x/2097152=1:=by omega
 have i:y/2097152=0\/y/2097152=1:=by omega
 have o: ∀a b c d:Nat,(a^^^b)^^^(c^^^d)=(a^^^c)^^^(b^^^d):=by
  intro a b c d;rw [Nat.xor_assoc,Nat.xor_assoc,<-Nat.xor_assoc b,Nat.xor_comm b c,Nat.xor_assoc c]
 rcases f with f|f<;>rcases i with i|i<;>rw [f,i]at e
 ·rw [if_neg (by simp at e;omega),if_neg (by omega),if_neg (by omega),Nat.xor_zero,Nat.xor_zero,Nat.xor_zero]
 ·rw [if_pos (by simp at e;omega),if_neg (by omega),if_pos (by omega),Nat.xor_zero,Nat.xor_assoc]
 ·rw [if_pos (by simp at e;omega),if_pos (by omega),if_neg (by omega),Nat.xor_zero,Nat.xor_assoc,Nat.xor_assoc,Nat.xor_comm q]
 ·rw [if_neg (by simp at e;omega),if_pos (by omega),if_pos (by omega),Nat.xor_zero,o,Nat.xor_self,Nat.xor_zero]
def zs:Nat->Nat->Nat
 |0,n=>n
 |k+1,n=>zst (zs k n)
theorem zs_lt {n:Nat}(h:n<4194304): ∀k,zs k n<4194304
 |0=>h
 |_+1=>aUd
theorem zs_xor {x y:Nat}(a:x<4194304)(b:y<4194304): ∀k,zs k (x^^^y)=zs k x^^^zs k y
 |0=>rfl
 |k+1=>by unfold zs;rw [zs_xor a b k,zst_xor (zs_lt a k) (zs_lt b k)]
theorem aXe (n:Nat): ∀k,zs k (zst n)=zst (zs k n)
 |0=>rfl
 |k+1=>by unfold zs;rw [aXe n k]
theorem zs_one:zs 22 1=2097167:=by decide+kernel
theorem aOt: ∀k,zs k 0=0
 |0=>rfl
 |k+1=>by unfold zs;rw [aOt k];rfl
def uT (n b:Nat):Nat:=if 4194304<=n*2+b then(n*2+b)^^^6291471 else n*2+b
theorem aXf {n b:Nat} (a:b<2):n*2+b=(n*2)^^^b:=by
 have:b=0\/b=1:=by omega
 rcases this with rfl|rfl
 ·simp
 ·apply Nat.eq_of_testBit_eq;intro i;rcases i with _|i
  ·simp [Nat.testBit_zero,Nat.xor_mod_two_eq_one]
  ·rw [Nat.testBit_xor];simp only [Nat.testBit_succ];rw [show(n*2+1)/2=n by omega,show n*2/2=n by omega];simp
theorem aEs {n b:Nat} (l:n<4194304) (a:b<2):uT n b=zst n^^^b:=by
 have o:n*2+b<8388608:=by omega
 unfold uT zst
 by_cases h:2097152<=n
 ·rw [if_pos (by omega),if_pos h,aXf a,show n*2%4194304=n*2-4194304 by omega];have e:n*2=(n*2-4194304)^^^4194304:=by
   have c:(n*2-4194304)<2^22:=by omega
   have r:n*2=2^22*1+(n*2-4194304):=by omega
   rw [Nat.xor_comm];have d:=Nat.two_pow_add_eq_or_of_lt c 1;have f:(2^22*1)&&& (n*2-4194304)=0:=by
    apply Nat.eq_of_testBit_eq;intro i;rw [Nat.testBit_and,Nat.mul_one,Nat.testBit_two_pow]
    by_cases hi:22=i
    ·subst hi;simp [Nat.testBit_lt_two_pow c]
    ·simp [hi]
   have j:(2^22*1)|||(n*2-4194304)=(2^22*1)^^^(n*2-4194304):=by
    apply Nat.eq_of_testBit_eq;intro i;have:=congrArg (λq=>q.testBit i) f;simp only [Nat.testBit_and,Nat.zero_testBit]at this;rw [Nat.testBit_or,Nat.testBit_xor]
    revert this
    generalize (2^22*1).testBit i=p;generalize (n*2-4194304).testBit i=q
    cases p<;>cases q<;>decide
   rw [j]at d;have s:4194304^^^(n*2-4194304)=4194304+(n*2-4194304):=d.symm;omega
  have k:(6291471:Nat)=4194304^^^2097167:=by decide
  rw [k];generalize hm:n*2-4194304=m at e⊢;rw [e];rw [Nat.xor_assoc m,Nat.xor_comm 4194304 b,<-Nat.xor_assoc m,Nat.xor_assoc (m^^^b),<-Nat.xor_assoc 4194304,Nat.xor_self,Nat.zero_xor,Nat.xor_assoc,Nat.xor_comm b,<-Nat.xor_assoc]
 ·rw [if_neg (by omega),if_neg h,aXf a,Nat.xor_zero,show n*2%4194304=n*2 by omega]
theorem aWe {n b:Nat}(a:n<4194304)(c:b<2):uT n b<4194304:=by
 rw [aEs a c];exact Nat.xor_lt_two_pow (n:=22) aUd (by omega)
theorem aTc {n b:Nat}(_:n<4194304)(c:b<2):qZ n b=zst n^^^(if b=1 then 2097167 else 0):=by
 unfold qZ zst;have:b=0\/b=1:=by omega
 by_cases h:2097152<=n<;>rcases this with rfl|rfl<;>simp [h,Nat.xor_assoc]
theorem step_22 {r b:Nat}(a:r<4194304)(c:b<2):zs 22 (uT r b)=qZ (zs 22 r) b:=by
 rw [aEs a c,zs_xor aUd (by omega),aXe,aTc (zs_lt a 22) c];have:b=0\/b=1:=by omega
 rcases this with rfl|rfl
 ·rw [aOt];simp
 ·rw [zs_one];simp
def aAt (f:List Nat)(i:Nat):Nat:=if i<744 then wd f (i/12)/2^(11-i%12)%2 else 0
def mV (f:List Nat):Nat->Nat
 |0=>0
 |i+1=>uT (mV f i) (aAt f i)
theorem aPz (f:List Nat)(i:Nat):aAt f i<2:=by unfold aAt;split<;>omega
theorem aFm (f:List Nat): ∀i,mV f i<4194304
 |0=>by show 0<4194304;decide
 |i+1=>aWe (aFm f i) (aPz f i)
theorem aSo (f:List Nat)(k:Nat)(a:k<62)(h:zs 22 (mV f (12*k))=aFz f k): ∀j,j<=12->zs 22 (mV f (12*k+j))=jV (aFz f k) (wd f k) j
 |0,_=>h
 |j+1,c=>by
  have b:=aSo f k a h j (by omega);show zs 22 (uT (mV f (12*k+j)) (aAt f (12*k+j)))=qZ (jV (aFz f k) (wd f k) j) (wd f k/2^(11-j)%2);rw [step_22 (aFm f _) (aPz f _),b]
  congr 1
  unfold aAt;rw [if_pos (by omega),show(12*k+j)/12=k by omega,show(12*k+j)%12=j by omega]
theorem aXl (f:List Nat): ∀k,k<=62->zs 22 (mV f (12*k))=aFz f k
 |0,_=>aOt 22
 |k+1,a=>aSo f k (by omega) (aXl f k (by omega)) 12 (Nat.le_refl _)
theorem aSm (f:List Nat): ∀j,mV f (744+j)=zs j (mV f 744)
 |0=>rfl
 |j+1=>by
  have a:=aSm f j;show uT (mV f (744+j)) (aAt f (744+j))=zst (zs j (mV f 744));have b:aAt f (744+j)=0:=by unfold aAt;rw [if_neg (by omega)]
  rw [b,aEs (aFm f _) (by decide),Nat.xor_zero,a]
theorem ref_check {f:List Nat}{k:Nat}(a:k=766):mV f k=checkN f:=by
 subst a;rw [show 766=744+22 from rfl,aSm f 22,show 744=12*62 from rfl,aXl f 62 (Nat.le_refl _)];rfl
def aLq (f:List Nat):Int×Bool:=if qJ (wd f 1)/\qJ (wd f 2)then((aBk f:Nat),true)else(0,false)
end Go.Fr1
namespace Go.Lf
open Go.RowKit Go.OB Go.Fr1
def en (g:List Nat)(h:g.length=64):Arr 64 Int:=⟨g.map λn:Nat=>(n:Int),by rw [List.length_map];exact h⟩
theorem jC {c d:Type}{body:(c->Option d)->c->Option d}(E:Nat->c)(a n:Nat)(r:Option d)(j:a<=n)(t:n<=9223372036854775807)
  (l: ∀k i,a<=i->i<n->body k (E i)=k (E (i+1)))(o: ∀k,body k (E n)=r):gZ body (E a)=r:=by
 have e: ∀m b i,i+m=n->a<=i->m<b->aX body b (E i)=r:=by
  intro m
  induction m with
  |zero=>
   intro b i p f q;obtain⟨b,rfl⟩: ∃k,b=k+1:=⟨b-1,by omega⟩;have:i=n:=by omega
   subst this;exact o _
  |succ m s=>
   intro b i p f q;obtain⟨b,rfl⟩: ∃k,b=k+1:=⟨b-1,by omega⟩;show body (aX body b) (E i)=r;rw [l _ i f (by omega)];exact s b (i+1) (by omega) (by omega) (by omega)
 exact e (n-a) FU a (by omega) (Nat.le_refl _) (aOv (by omega))
theorem kR {g:List Nat}{h:g.length=64}{i:Nat}(hi:i<64):at' (en g h).l (i:Int)=some ((wd g i:Nat):Int):=by
 rw [aEn];have:i<g.length:=by omega
 simp [en,wd,List.getD_eq_getElem?_getD,this]
theorem wS {p q:Prop} [Decidable p] [Decidable q] (h:p↔q):decide p=decide q:=decide_eq_decide.2 h
theorem wR {k:IntKind}{a b:Nat}(c:b<=k.bits):wL k (a:Int) (b:Int)=some ((a/2^b:Nat):Int):=by
 unfold wL;rw [if_pos ⟨by omega,by omega⟩];simp
theorem pI {a b:Nat}(c:b≠0):jM (a:Int) (b:Int)=some ((a%b:Nat):Int):=by
 unfold jM;rw [if_neg (by omega),Int.tmod_eq_emod_of_nonneg (by omega)];simp
theorem aWt {a b:Nat}(c:b≠0)(d:a<4611686018427387904):uG .i64 (a:Int) (b:Int)=some ((a/b:Nat):Int):=by
 unfold uG;have f:a/b<=a:=Nat.div_le_self _ _;have e:(a:Int)/(b:Int)=((a/b:Nat):Int):=by simp
 rw [if_neg (by omega),Int.tdiv_eq_ediv_of_nonneg (by omega),e];generalize a/b=q at *;rw [wrap_i64 (by omega) (by omega)]
theorem cnt_tab: ∀i:Fin 256,byte' [0,1,1,2,1,2,2,3,1,2,2,3,2,3,3,4,1,2,2,3,2,3,3,4,2,3,3,4,3,4,4,5,1,2,2,3,2,3,3,4,2,3,3,4,3,4,4,5,2,3,3,4,3,4,4,5,3,4,4,5,4,5,5,6,1,2,2,3,2,3,3,4,2,3,3,4,3,4,4,5,2,3,3,4,3,4,4,5,3,4,4,5,4,5,5,6,2,3,3,4,3,4,4,5,3,4,4,5,4,5,5,6,3,4,4,5,4,5,5,6,4,5,5,6,5,6,6,7,1,2,2,3,2,3,3,4,2,3,3,4,3,4,4,5,2,3,3,4,3,4,4,5,3,4,4,5,4,5,5,6,2,3,3,4,3,4,4,5,3,4,4,5,4,5,5,6,3,4,4,5,4,5,5,6,4,5,5,6,5,6,6,7,2,3,3,4,3,4,4,5,3,4,4,5,4,5,5,6,3,4,4,5,4,5,5,6,4,5,5,6,5,6,6,7,3,4,4,5,4,5,5,6,4,5,5,6,5,6,6,7,4,5,5,6,5,6,6,7,5,6,6,7,6,7,7,8] (i.val:Int)=some ((aAk 8 i.val:Nat):Int):=by decide+kernel
theorem cnt_at {i:Nat}(hi:i<256):byte' [0,1,1,2,1,2,2,3,1,2,2,3,2,3,3,4,1,2,2,3,2,3,3,4,2,3,3,4,3,4,4,5,1,2,2,3,2,3,3,4,2,3,3,4,3,4,4,5,2,3,3,4,3,4,4,5,3,4,4,5,4,5,5,6,1,2,2,3,2,3,3,4,2,3,3,4,3,4,4,5,2,3,3,4,3,4,4,5,3,4,4,5,4,5,5,6,2,3,3,4,3,4,4,5,3,4,4,5,4,5,5,6,3,4,4,5,4,5,5,6,4,5,5,6,5,6,6,7,1,2,2,3,2,3,3,4,2,3,3,4,3,4,4,5,2,3,3,4,3,4,4,5,3,4,4,5,4,5,5,6,2,3,3,4,3,4,4,5,3,4,4,5,4,5,5,6,3,4,4,5,4,5,5,6,4,5,5,6,5,6,6,7,2,3,3,4,3,4,4,5,3,4,4,5,4,5,5,6,3,4,4,5,4,5,5,6,4,5,5,6,5,6,6,7,3,4,4,5,4,5,5,6,4,5,5,6,5,6,6,7,4,5,5,6,5,6,6,7,5,6,6,7,6,7,7,8] (i:Int)=some ((aAk 8 i:Nat):Int):=cnt_tab ⟨i,hi⟩
theorem ones_eq {n:Nat}(f:n<65536):Fd0 (n:Int)=some ((pop n:Nat):Int):=by
 have a:=cnt_at (i:=n/256) (by omega);have c:=cnt_at (i:=n%256) (by omega);have d:wL .u16 (n:Int) 8=some ((n/256:Nat):Int):=wR (b:=8) (by decide);have e:bits .and .u16 (n:Int) 255=((n%256:Nat):Int):=by rw [aFo (m:=256) 8 (by decide) (by decide) (by omega) (by omega)];omega
 have j:=aJa 8 (n/256);have k:=aJa 8 (n%256);have l:=pop_eq (n:=n);unfold Fd0;rw [d,zC,a,zC,zK,e,c,zC,zK,zK];generalize aAk 8 (n/256)=A at *;generalize aAk 8 (n%256)=B at *;rw [wrap_u8 (by omega) (by omega),wrap_i64 (by omega) (by omega)];congr 1;omega
theorem aKv {n:Nat}(a:n<65536):Fax (n:Int)=some (decide (qJ n)):=by
 have q:=aJa 16 n;unfold Fax;simp only [zK,ones_eq a,zC];have e:jM ((pop n:Nat):Int) 2=some ((pop n%2:Nat):Int):=pI (b:=2) (by decide);rw [e];simp only [zC];have c:decide ((n:Int)<=4095)=decide (n<=4095):=wS (by omega);have d:decide (((pop n%2:Nat):Int)=1)=decide (aIj n):=wS (by unfold aIj;omega);have f:decide (qJ n)=(decide (n<=4095)&&decide (aIj n)):=by
  rw [Bool.eq_iff_iff,Bool.and_eq_true,decide_eq_true_eq,decide_eq_true_eq,decide_eq_true_eq];exact Iff.rfl
 rw [c,d,f];generalize decide (aIj n)=z
 cases decide (n<=4095)<;>rfl
theorem aCv {x:Nat}(a:x<65536):Fag (x:Int)=some ((x%2048:Nat):Int):=by
 unfold Fag;simp only [zK];rw [aFo (m:=2048) 11 (by decide) (by decide) (by omega) (by omega),wrap_i64 (by omega) (by omega)];congr 1
section
variable {g:List Nat}{h:g.length=64}
theorem number_eq (a:Small g):Fa9 (some (en g h))=some ((aBk g:Nat):Int):=by
 have b:=a 1;have c:=a 2;unfold Fa9;rw [zC,show(1:Int)=((1:Nat):Int)from rfl,kR (by decide),zC,aCv b,zC,zC,show(2:Int)=((2:Nat):Int)from rfl,kR (by decide),zC,aCv c,zC];have e:jS .i64 ((wd g 2%2048:Nat):Int) 11=some ((wd g 2%2048*2048:Nat):Int):=by
  unfold jS;rw [if_pos (by decide)]
  congr 1
  rw [show(2:Int)^(11:Int).toNat=2048 by decide,wrap_i64 (by omega) (by omega)];omega
 rw [e,zC,zK,OB.or_comm,aKi (m:=2048) 11 (by decide) (by omega) (by omega) (by omega) (by omega) (by omega) (by omega)];unfold aBk
 congr 1;omega
theorem sum_eq (a:Small g):Fca (some (en g h))=some ((aHl g:Nat):Int):=by
 have L:Fgc (some (en g h)) (0,0)=some ((aHl g:Nat):Int):=by
  unfold Fgc;refine jC (λi=>(((aNp g i:Nat):Int),((i:Nat):Int))) 0 60 _ (by decide) (by decide) (λk i _ _=>?_) (λk=>rfl);have b:=a (i+1);have d:=aMc g i;have c:((i:Int)+1)=((i+1:Nat):Int):=by omega
  simp only [zK];rw [show decide ((i:Int)<60)=true from dT (by omega),zU,wrap_i64 (by omega) (by omega),zC,c,kR (by omega),zC,aCv b,zC,
   aOq _ _ (by omega) (by omega)]
  rfl
 unfold Fca;rw [L,zC]
theorem crc_bits (a:Small g) {i:Nat} (hi:i<62) (n:Nat) (b:n<4194304):Ffy (some (en g h)) (i:Int) ((n:Int),11)=some ((jV n (wd g i) 12:Nat):Int):=by
 unfold Ffy;have t:=a i;refine jC (λj=>(((jV n (wd g i) j:Nat):Int),11-(j:Int))) 0 12 _ (by decide) (by decide) (λk j _ _=>?_) (λk=>?_)
 ·have c:=aKt (n:=n) (w:=wd g i) b j;generalize hq:jV n (wd g i) j=q at *
  have d:(11:Int)-(j:Int)=((11-j:Nat):Int):=by omega
  have e:jS .i64 (q:Int) 1=some ((q*2:Nat):Int):=by
   unfold jS;rw [if_pos (by decide)]
   congr 1
   rw [show(2:Int)^(1:Int).toNat=2 by decide,wrap_i64 (by omega) (by omega)];omega
  have f:bits .and .i64 ((q*2:Nat):Int) 4194303=((q*2%4194304:Nat):Int):=by
   rw [aFn (m:=4194304) 22 (by decide) (by decide) (by omega) (by omega)];omega
  have l:bits .and .u16 ((wd g i/2^(11-j):Nat):Int) 1=((wd g i/2^(11-j)%2:Nat):Int):=by
   have:wd g i/2^(11-j)<=wd g i:=Nat.div_le_self _ _;generalize wd g i/2^(11-j)=z at *
   rw [aFo (m:=2) 1 (by decide) (by decide) (by omega) (by omega)];omega
  simp only [zK];rw [show decide ((0:Int)<=11-(j:Int))=true from dT (by omega),zU,and_top c,e,zC,f,zC,kR (by omega),zC,d,wR (by show 11-j<=16;omega),zC,l];have o:decide ((if 2097152<=q then(2097152:Int)else 0)≠0)=decide (2097152<=q):=by split<;>simp_all
  have p:decide (((wd g i/2^(11-j)%2:Nat):Int)=1)=decide (wd g i/2^(11-j)%2=1):=wS (by omega);have r:IntKind.i64.wrap (((11-j:Nat):Int)-1)=11-((j+1:Nat):Int):=by rw [wrap_i64 (by omega) (by omega)];omega
  rw [o,p,r]
  cases hb:(!(decide (2097152<=q)==decide (wd g i/2^(11-j)%2=1)))with
  |true=>
   have s:bits .xor .i64 ((q*2%4194304:Nat):Int) 2097167=(((q*2%4194304)^^^2097167:Nat):Int):=aRp (q*2%4194304) 2097167 rfl rfl (by omega) (by decide);rw [zU,zC,s];rw [<-hq]at hb;rw [aTt hb,hq]
  |false=>
   rw [zQ,zC];rw [<-hq]at hb;rw [aVh hb,hq]
 ·simp only [zK];rw [show decide ((0:Int)<=11-((12:Nat):Int))=false from by decide,zQ]
theorem check_eq (a:Small g):Fc1 (some (en g h))=some ((checkN g:Nat):Int):=by
 have L:Fgt (some (en g h)) (0,0)=some ((checkN g:Nat):Int):=by
  unfold Fgt;refine jC (λi=>(((aFz g i:Nat):Int),((i:Nat):Int))) 0 62 _ (by decide) (by decide) (λk i _ hi=>?_) (λk=>rfl);simp only [zK];rw [show decide ((i:Int)<62)=true from dT (by omega),zU,crc_bits a hi _ (aSt g i),zC,wrap_i64 (by omega) (by omega)];rfl
 unfold Fc1;rw [L,zC]
end
theorem aYg {k:Nat}(a:k<4):at' xG.l (k:Int)=some ((wd tab k:Nat):Int):=by
 have: ∀i:Fin 4,at' xG.l (i.val:Int)=some ((wd tab i.val:Nat):Int):=by decide+kernel
 exact this ⟨k,a⟩
theorem wide_eq {g:List Nat}{h:g.length=64}:Fco (some (en g h))=some (decide (aHy g)):=by
 unfold Fco;rw [xJ];unfold Fg6
 by_cases a:aHy g
 ·rw [dT a];obtain⟨i0,e,f⟩:=a
  -- the first one
  have: ∃m,m<64/\4095<wd g m/\ ∀i,i<m-> ¬4095<wd g i:=by
   have c: ∀n,(∀i,i<n-> ¬4095<wd g i)\/ ∃m,m<n/\4095<wd g m/\ ∀i,i<m-> ¬4095<wd g i:=by
    intro n
    induction n with
    |zero=>exact .inl λi hi=>by omega
    |succ n b=>
     rcases b with b|⟨m,_,j,l⟩
     ·by_cases d:4095<wd g n
      ·exact .inr ⟨n,by omega,d,b⟩
      ·exact .inl (upto_succ b d)
     ·exact .inr ⟨m,by omega,j,l⟩
   rcases c 64 with k|k
   ·exact absurd f (k i0 e)
   ·exact k
  obtain⟨m,m1,m2,m3⟩:=this;refine jC (λi=>(i:Int)) 0 m _ (by omega) (by omega) (λk i _ hi=>?_) (λk=>?_)
  ·simp only [zK];rw [show decide ((i:Int)<64)=true from dT (by omega),zU,zC,kR (by omega),zC,show decide ((4095:Int)<((wd g i:Nat):Int))=false from qD (by have:=m3 i hi;omega),zQ,wrap_i64 (by omega) (by omega)];rfl
  ·simp only [zK];rw [show decide ((m:Int)<64)=true from dT (by omega),zU,zC,kR (by omega),zC,show decide ((4095:Int)<((wd g m:Nat):Int))=true from dT (by omega),zU]
 ·rw [qD a];have o:=notwide h a;refine jC (λi=>(i:Int)) 0 64 _ (by decide) (by decide) (λk i _ hi=>?_) (λk=>rfl);simp only [zK];rw [show decide ((i:Int)<64)=true from dT (by omega),zU,zC,kR (by omega),zC,show decide ((4095:Int)<((wd g i:Nat):Int))=false from qD (by have:=o i;omega),zQ,wrap_i64 (by omega) (by omega)];rfl
def aIc (g:List Nat):Prop:= ∀i,i<64->1<=i->qJ (wd g i)
instance (g:List Nat):Decidable (aIc g):=by unfold aIc;exact inferInstance
def qW (g:List Nat):Prop:= ¬aHy g/\wd g 0=wd tab (aBk g%4)/\wd g 61%2048=aHl g/\aIc g/\wd g 62%2048*2048+wd g 63%2048=checkN g
instance (g:List Nat):Decidable (qW g):=by unfold qW;exact inferInstance
theorem or_data {a b:Nat} (c:a<2048) (d:b<2048): ∃z,jS .i64 (a:Int) 11=some z/\bits .or .i64 z (b:Int)=((a*2048+b:Nat):Int):=by
 refine⟨((a*2048:Nat):Int),?_,?_⟩;unfold jS;rw [if_pos (by decide)];congr 1;rw [show(2:Int)^(11:Int).toNat=2048 by decide,wrap_i64 (by omega) (by omega)];omega;rw [aKi (m:=2048) 11 (by decide) (by omega) (by omega) (by omega) (by omega) (by omega) (by omega)];omega
section
variable {g:List Nat}{h:g.length=64}
theorem odds_loop (l:Small g) (k:Unit->Option Bool):Ff1 (some (en g h)) k 1=if aIc g then k ()else some false:=by
 unfold Ff1;have o: ∀n,(∀i,1<=i->i<n->qJ (wd g i))\/ ∃m,1<=m/\m<n/\ ¬qJ (wd g m)/\ ∀i,1<=i->i<m->qJ (wd g i):=by
  intro n
  induction n with
  |zero=>exact .inl λi _ hi=>by omega
  |succ n d=>
   rcases d with d|⟨m,f,t,j,p⟩
   ·by_cases u:1<=n
    ·by_cases q:qJ (wd g n)
     ·refine .inl λi r v=>?_
      by_cases e:i=n
      ·subst e;exact q
      ·exact d i r (by omega)
     ·exact .inr ⟨n,u,by omega,q,d⟩
    ·exact .inl λi r v=>by omega
   ·exact .inr ⟨m,f,by omega,j,p⟩
 rcases o 64 with s|⟨m,f,t,j,p⟩
 ·rw [if_pos (show aIc g from λi a b=>s i b a)];refine jC (λi=>(i:Int)) 1 64 _ (by decide) (by decide) (λk i c hi=>?_) (λk=>rfl);simp only [zK];rw [show decide ((i:Int)<64)=true from dT (by omega),zU,zC,kR (by omega),zC,aKv (l i),zC,dT (s i c hi),wrap_i64 (by omega) (by omega)];rfl
 ·rw [if_neg (show¬aIc g from λa=>j (a m (by omega) f))];refine jC (λi=>(i:Int)) 1 m _ f (by omega) (λk i c hi=>?_) (λk=>?_)
  ·simp only [zK];rw [show decide ((i:Int)<64)=true from dT (by omega),zU,zC,kR (by omega),zC,aKv (l i),zC,dT (p i c hi),wrap_i64 (by omega) (by omega)];rfl
  ·simp only [zK];rw [show decide ((m:Int)<64)=true from dT (by omega),zU,zC,kR (by omega),zC,aKv (l m),zC,qD j];rfl
theorem sound_eq (c:Small g):Fed (some (en g h))=some (decide (qW g)):=by
 have e:jM ((aBk g:Nat):Int) 4=some ((aBk g%4:Nat):Int):=pI (b:=4) (by decide);have k:=aXw g;have a0:at' (en g h).l 0=some ((wd g 0:Nat):Int):=kR (i:=0) (by decide);have f:at' (en g h).l 61=some ((wd g 61:Nat):Int):=kR (i:=61) (by decide);have a2:at' (en g h).l 62=some ((wd g 62:Nat):Int):=kR (i:=62) (by decide);have a3:at' (en g h).l 63=some ((wd g 63:Nat):Int):=kR (i:=63) (by decide);obtain⟨_,j,z2⟩:=or_data (a:=wd g 62%2048) (b:=wd g 63%2048) (by omega) (by omega);unfold Fed;simp only [wide_eq,zC,zK,xJ,number_eq c,e,aYg (show aBk g%4<4 by omega),a0,f,a2,a3,aCv (c 61),aCv (c 62),aCv (c 63),sum_eq c,check_eq c,j,z2,odds_loop c];have d1:decide (((wd g 0:Nat):Int)≠((wd tab (aBk g%4):Nat):Int))= !decide (wd g 0=wd tab (aBk g%4)):=by rw [Bool.eq_iff_iff];simp;omega
 have d2:decide (((wd g 61%2048:Nat):Int)≠((aHl g:Nat):Int))= !decide (wd g 61%2048=aHl g):=by rw [Bool.eq_iff_iff];simp;omega
 have d3:decide (((wd g 62%2048*2048+wd g 63%2048:Nat):Int)=((checkN g:Nat):Int))=decide (wd g 62%2048*2048+wd g 63%2048=checkN g):=wS (by omega);rw [d1,d2,d3];by_cases d:aHy g;rw [dT d,qD (show¬qW g from λq=>q.1 d)];rfl;by_cases c2:wd g 0=wd tab (aBk g%4);by_cases c3:wd g 61%2048=aHl g;by_cases c4:aIc g;rw [qD d,dT c2,dT c3,if_pos c4];show some _=some _;congr 1;exact wS ⟨λq=>⟨d,c2,c3,c4,q⟩,λq=>q.2.2.2.2⟩;rw [qD d,dT c2,dT c3,if_neg c4,qD (show¬qW g from λq=>c4 q.2.2.2.1)];rfl;rw [qD d,dT c2,qD c3,qD (show¬qW g from λq=>c3 q.2.2.1)];rfl;rw [qD d,qD c2,qD (show¬qW g from λq=>c2 q.2.1)];rfl
end
section
variable {g:List Nat}{h:g.length=64}
theorem Number_eq (b:Small g):Fci (en g h)=some ((aLq g).1,(aLq g).2):=by
 have c:at' (en g h).l 1=some ((wd g 1:Nat):Int):=kR (i:=1) (by decide);have a2:at' (en g h).l 2=some ((wd g 2:Nat):Int):=kR (i:=2) (by decide);unfold Fci aLq;simp only [c,a2,zC,zK,aKv (b 1),aKv (b 2),number_eq b];by_cases a:qJ (wd g 1);by_cases c2:qJ (wd g 2);rw [dT a,dT c2,if_pos ⟨a,c2⟩];rfl;rw [dT a,qD c2,if_neg (λq=>c2 q.2)];rfl;rw [qD a,if_neg (λq=>a q.1)];rfl
end
def flW (g:List Nat):Nat->List bM
 |0=>[]
 |k+1=>if 4095<wd g k then flW g k++[⟨(k:Nat),5⟩]else flW g k
def flO (l:List bM)(g:List Nat):Nat->List bM
 |0=>l
 |k+1=>if qJ (wd g (k+1))then flO l g k else flO l g k++[⟨((k+1:Nat):Int),2⟩]
theorem aXo (g:List Nat): ∀k,(flW g k).length<=k
 |0=>by simp [flW]
 |k+1=>by have:=aXo g k;unfold flW;split<;>simp<;>omega
theorem aPs (l:List bM)(g:List Nat): ∀k,(flO l g k).length<=l.length+k
 |0=>by simp [flO]
 |k+1=>by have:=aPs l g k;unfold flO;split<;>simp<;>omega
theorem aOp (g:List Nat): ∀k,flW g k=[]↔ ∀i,i<k-> ¬4095<wd g i
 |0=>by simp [flW]
 |k+1=>by
  have a:=aOp g k;unfold flW;constructor
  ·intro h;split at h
   ·simp at h
   ·rename_i c;exact upto_succ (a.1 h) c
  ·intro h;rw [if_neg (h k (by omega))];exact a.2 λi _=>h i (by omega)
theorem aYb (g:List Nat): ∀k,flO [] g k=[]↔ ∀i,1<=i->i<k+1->qJ (wd g i)
 |0=>by simp [flO];omega
 |k+1=>by
  have b:=aYb g k;unfold flO;constructor
  ·intro h;split at h
   ·rename_i c;intro i a d
    by_cases e:i=k+1
    ·subst e;exact c
    ·exact b.1 h i a (by omega)
   ·simp at h
  ·intro h;rw [if_pos (h (k+1) (by omega) (by omega))];exact b.2 λi a d=>h i a (by omega)
def flS (g:List Nat):List bM:=if wd g 0=wd tab (aBk g%4)then []else [⟨0,1⟩]
def flP (g:List Nat):List bM:=flO (flS g) g 63
def flT (g:List Nat):List bM:=if wd g 61%2048=aHl g then flP g else flP g++[⟨61,3⟩]
def flC (g:List Nat):List bM:=if wd g 62%2048*2048+wd g 63%2048=checkN g then flT g else flT g++[⟨62,4⟩]
def aPi (g:List Nat):List bM:=if flW g 64=[]then flC g else flW g 64
theorem aWh (g:List Nat):(flS g).length<=1:=by unfold flS;split<;>simp
theorem aXr (g:List Nat):(flP g).length<=64:=by have:=aPs (flS g) g 63;have:=aWh g;unfold flP;omega
theorem flT_len (g:List Nat):(flT g).length<=65:=by have:=aXr g;unfold flT;split<;>simp<;>omega
theorem aVt (g:List Nat):aPi g=[]↔qW g:=by
 have f:flW g 64=[]↔ ¬aHy g:=by
  rw [aOp];exact⟨λh ⟨i,d,e⟩=>h i d e,λh i d e=>h ⟨i,d,e⟩⟩
 have j:flO [] g 63=[]↔aIc g:=by
  rw [aYb];exact⟨λh i a b=>h i b a,λh i a b=>h i b a⟩
 have m: ∀(l:List bM) k,flO l g k=[]->l=[]:=by
  intro l k
  induction k with
  |zero=>exact id
  |succ k n=>
   intro h;unfold flO at h;split at h
   ·exact n h
   ·simp at h
 unfold aPi;constructor
 ·intro h;split at h
  ·rename_i c;unfold flC at h;split at h
   ·rename_i c5;unfold flT at h;split at h
    ·rename_i c3;unfold flP at h;have d:=m _ _ h;unfold flS at d;split at d
     ·rename_i c2;unfold flS at h;rw [if_pos c2]at h;exact⟨f.1 c,c2,c3,j.1 h,c5⟩
     ·simp at d
    ·simp at h
   ·simp at h
  ·rename_i c;exact absurd h c
 ·rintro⟨o,c2,c3,c4,c5⟩;rw [if_pos (f.2 o)];unfold flC flT flP flS;rw [if_pos c5,if_pos c3,if_pos c2];exact j.2 c4
theorem aQt {l:List bM}(x:bM)(h:l.length<=200):app' 16 l [x]=some (l++[x]):=by
 unfold app';rw [if_pos];rw [maxLen_eq];simp;omega
theorem rflaws_L1 {g:List Nat}{h:g.length=64}:Fez (en g h) ([],0)=some (flW g 64):=by
 unfold Fez;refine jC (λi=>(flW g i,(i:Int))) 0 64 _ (by decide) (by decide) (λk i _ _=>?_) (λk=>rfl);have:=aXo g i;simp only [zK];rw [show decide ((i:Int)<64)=true from dT (by omega),zU,kR (by omega),zC,aQt _ (by omega),wrap_i64 (by omega) (by omega)];by_cases c:4095<wd g i;rw [show decide ((4095:Int)<((wd g i:Nat):Int))=true from dT (by omega),zU,zC,zC,show flW g (i+1)=flW g i++[⟨(i:Nat),5⟩]from if_pos c];rfl;rw [show decide ((4095:Int)<((wd g i:Nat):Int))=false from qD (by omega),zQ,zC,show flW g (i+1)=flW g i from if_neg c];rfl
theorem rsync_eq {n:Nat}:Fcz (n:Int)=some ((wd tab (n%4):Nat):Int):=by
 have a:jM (n:Int) 4=some ((n%4:Nat):Int):=pI (b:=4) (by decide);unfold Fcz;rw [a,zC];have:=aYg (k:=n%4) (by omega);rw [show(⟨[583,1464,2631,3512],rfl⟩:Arr 4 Int)=xG from rfl,this,zC]
theorem aYf {n:Nat} (o:n<65536):Fbp (n:Int)=some (decide (aIj n)):=by
 have p:Fei ((n:Int),0)=some ((pop n:Nat):Int):=by
  have i: ∀(B:(Int×Int->Option Int)->Int×Int->Option Int),(∀k (a b:Int),B k (a,b)=gI (decide (0<a)) (gB (jM a 2) λx=>gB (uG .i64 a 2) λy=>k (y,IntKind.i64.wrap (b+x))) (some b))->
    ∀(f m c d:Nat),m<2^f->f<=16->c+f<=16->f<d->aX B d ((m:Int),(c:Int))=some (((c+aAk f m:Nat):Int)):=by
   intro B l f
   induction f with
   |zero=>
    intro m c d j _ _ q;obtain⟨d,rfl⟩: ∃k,d=k+1:=⟨d-1,by omega⟩;have:m=0:=by omega
    subst this;rw [aX,l];rfl
   |succ f r=>
    intro m c d j s _ q;obtain⟨d,rfl⟩: ∃k,d=k+1:=⟨d-1,by omega⟩;rw [aX,l]
    by_cases t:m=0
    ·subst t;rw [aNt];rfl
    ·have u:jM (m:Int) 2=some ((m%2:Nat):Int):=pI (b:=2) (by decide);have hm:m<65536:=Nat.lt_of_lt_of_le j (Nat.pow_le_pow_right (n:=2) (by decide) s);have v:uG .i64 (m:Int) 2=some ((m/2:Nat):Int):=aWt (b:=2) (by decide) (by omega);rw [show decide (0<(m:Int))=true from dT (by omega),zU,u,zC,v,zC,wrap_i64 (by omega) (by omega),show((c:Int)+((m%2:Nat):Int))=((c+m%2:Nat):Int)by omega];rw [r (m/2) (c+m%2) d (by rw [Nat.pow_succ]at j;omega) (by omega) (by omega) (by omega),aAk]
     congr 2;omega
  have e: ∀B:(Int×Int->Option Int)->Int×Int->Option Int,gZ B ((n:Int),0)=aX B FU ((n:Int),((0:Nat):Int)):=λB=>rfl
  unfold Fei;rw [e,i _ (λk a b=>rfl) 16 n 0 FU o (by decide) (by decide) (by unfold FU;omega),Nat.zero_add];rfl
 unfold Fbp;rw [p,zC];have e:jM ((pop n:Nat):Int) 2=some ((pop n%2:Nat):Int):=pI (b:=2) (by decide);rw [e,zC,zK];refine congrArg some (wS ?_);unfold aIj;generalize pop n%2=z;omega
section
variable {g:List Nat}{h:g.length=64}
theorem rsum_eq (a:Small g):Fc6 (en g h)=some ((aHl g:Nat):Int):=by
 have L:Fej (en g h) (0,1)=some ((aHl g:Nat):Int):=by
  unfold Fej;refine jC (λi=>(((aNp g i:Nat):Int),((i+1:Nat):Int))) 0 60 _ (by decide) (by decide) (λk i _ _=>?_) (λk=>rfl);have c:=a (i+1);have d:=aMc g i;have e:jM ((wd g (i+1):Nat):Int) 2048=some ((wd g (i+1)%2048:Nat):Int):=pI (b:=2048) (by decide);simp only [zK];rw [show decide (((i+1:Nat):Int)<=60)=true from dT (by omega),zU,kR (by omega),zC,wrap_i64 (by omega) (by omega),e,zC,
   aOq _ _ (by omega) (by omega),wrap_i64 (by omega) (by omega)]
  rfl
 unfold Fc6;rw [L,zC]
theorem rcheck_eq (p:Small g):Fdb (en g h)=some ((checkN g:Nat):Int):=by
 have L:Fge (en g h) (0,0)=some ((checkN g:Nat):Int):=by
  unfold Fge;rw [<-ref_check (f:=g) (k:=766) rfl];refine jC (λi=>(((mV g i:Nat):Int),((i:Nat):Int))) 0 766 _ (by decide) (by decide) (λk i _ _=>?_) (λk=>rfl);have u:=aFm g i;have q:=aPz g i;have v:=p (i/12);simp only [zK];rw [show decide ((i:Int)<766)=true from dT (by omega),zU];have a:(gI (decide ((i:Int)<744)) (gB (uG .i64 (i:Int) 12) λd=>gB (at' (en g h).l d) λe=>gB (jM (i:Int) 12) λj=>gB (wL .i64 (IntKind.i64.wrap e) (IntKind.i64.wrap (11-j))) λo=>some (bits .and .i64 o 1)) (some 0))=some ((aAt g i:Nat):Int):=by
   unfold aAt
   by_cases c:i<744
   ·rw [show decide ((i:Int)<744)=true from dT (by omega),zU,if_pos c];have r:uG .i64 (i:Int) 12=some ((i/12:Nat):Int):=aWt (b:=12) (by decide) (by omega);have s:jM (i:Int) 12=some ((i%12:Nat):Int):=pI (b:=12) (by decide);rw [r,zC,kR (by omega),zC,s,zC,wrap_i64 (by omega) (by omega),wrap_i64 (by omega) (by omega),show(11:Int)-((i%12:Nat):Int)=((11-i%12:Nat):Int)by omega,
     wR (b:=11-i%12) (by show 11-i%12<=64;omega),zC]
    have:wd g (i/12)/2^(11-i%12)<=wd g (i/12):=Nat.div_le_self _ _;generalize wd g (i/12)/2^(11-i%12)=z at *
    rw [aFn (m:=2) 1 (by decide) (by decide) (by omega) (by omega)]
    congr 1
   ·rw [show decide ((i:Int)<744)=false from qD (by omega),zQ,if_neg c];rfl
  rw [a,zC,wrap_i64 (n:=((mV g i:Nat):Int)*2) (by omega) (by omega),wrap_i64 (n:=((mV g i:Nat):Int)*2+((aAt g i:Nat):Int)) (by omega) (by omega),wrap_i64 (n:=(i:Int)+1) (by omega) (by omega)];show gB _ _=k (((uT (mV g i) (aAt g i):Nat):Int),_);rw [show((mV g i:Nat):Int)*2+((aAt g i:Nat):Int)=((mV g i*2+aAt g i:Nat):Int)by omega];unfold uT
  by_cases c:4194304<=mV g i*2+aAt g i
  ·rw [show decide ((4194304:Int)<=((mV g i*2+aAt g i:Nat):Int))=true from dT (by omega),zU,zC];have t:bits .xor .i64 ((mV g i*2+aAt g i:Nat):Int) 6291471=(((mV g i*2+aAt g i)^^^6291471:Nat):Int):=aRp (mV g i*2+aAt g i) 6291471 rfl rfl (by omega) (by decide);rw [t,if_pos c];rfl
  ·rw [show decide ((4194304:Int)<=((mV g i*2+aAt g i:Nat):Int))=false from qD (by omega),zQ,zC,if_neg c];rfl
 unfold Fdb;rw [L,zC]
theorem aKn (a:Small g):Fbv (en g h)=some ((aBk g:Nat):Int):=by
 have j:=a 1;have k:=a 2;have c:at' (en g h).l 1=some ((wd g 1:Nat):Int):=kR (i:=1) (by decide);have a2:at' (en g h).l 2=some ((wd g 2:Nat):Int):=kR (i:=2) (by decide);have d:jM ((wd g 1:Nat):Int) 2048=some ((wd g 1%2048:Nat):Int):=pI (b:=2048) (by decide);have e:jM ((wd g 2:Nat):Int) 2048=some ((wd g 2%2048:Nat):Int):=pI (b:=2048) (by decide);unfold Fbv;simp only [zK];have f:IntKind.i64.wrap (((wd g 2%2048:Nat):Int)*2048)=((wd g 2%2048*2048:Nat):Int):=by rw [wrap_i64 (by omega) (by omega)];omega
 rw [c,zC,wrap_i64 (by omega) (by omega),d,zC,a2,zC,wrap_i64 (by omega) (by omega),e,zC,f,wrap_i64 (by omega) (by omega)];unfold aBk;congr 1
theorem rflaws_L2 (a:Small g) {l:List bM} (e:l.length<=1) (b:flW g 64=[]):Ffw (en g h) (l,1)=some (flO l g 63):=by
 unfold Ffw;refine(jC (λi=>(flO l g i,((i+1:Nat):Int))) 0 63 (some (flO l g 63)) (by decide) (by decide) (λk i _ _=>?_) (λk=>rfl));have:=aPs l g i;have f:=a (i+1);have j:=(aOp g 64).1 b (i+1) (by omega);simp only [zK];rw [show decide (((i+1:Nat):Int)<64)=true from dT (by omega),zU,kR (by omega),zC,wrap_i64 (by omega) (by omega),aYf (a _),zC,aQt _ (by omega),wrap_i64 (by omega) (by omega)];by_cases c:qJ (wd g (i+1));rw [dT c.2,show flO l g (i+1)=flO l g i from if_pos c];rfl;have d: ¬aIj (wd g (i+1)):=λq=>c ⟨by omega,q⟩;rw [qD d,show flO l g (i+1)=flO l g i++[⟨((i+1:Nat):Int),2⟩]from if_neg c];rfl
theorem rFlaws_eq (a:Small g):Fc2 (en g h)=some (aPi g):=by
 have q:=aXw g;have r:=a 0;have k:=a 61;have m:=a 62;have n:=a 63;have a0:at' (en g h).l 0=some ((wd g 0:Nat):Int):=kR (i:=0) (by decide);have o:at' (en g h).l 61=some ((wd g 61:Nat):Int):=kR (i:=61) (by decide);have a2:at' (en g h).l 62=some ((wd g 62:Nat):Int):=kR (i:=62) (by decide);have a3:at' (en g h).l 63=some ((wd g 63:Nat):Int):=kR (i:=63) (by decide);have d:jM ((wd g 61:Nat):Int) 2048=some ((wd g 61%2048:Nat):Int):=pI (b:=2048) (by decide);have e:jM ((wd g 62:Nat):Int) 2048=some ((wd g 62%2048:Nat):Int):=pI (b:=2048) (by decide);have f:jM ((wd g 63:Nat):Int) 2048=some ((wd g 63%2048:Nat):Int):=pI (b:=2048) (by decide);have d1:decide (((wd g 0:Nat):Int)≠((wd tab (aBk g%4):Nat):Int))= !decide (wd g 0=wd tab (aBk g%4)):=by rw [Bool.eq_iff_iff];simp;omega
 have d2:decide (((wd g 61%2048:Nat):Int)≠((aHl g:Nat):Int))= !decide (wd g 61%2048=aHl g):=by rw [Bool.eq_iff_iff];simp;omega
 have d3:decide ((((wd g 62%2048:Nat):Int)*2048+((wd g 63%2048:Nat):Int))≠((checkN g:Nat):Int))= !decide (wd g 62%2048*2048+wd g 63%2048=checkN g):=by rw [Bool.eq_iff_iff];simp;omega
 unfold Fc2 aPi;rw [rflaws_L1,zC,zK,zK]
 by_cases c:flW g 64=[]
 ·rw [if_pos c,c];rw [show decide (0<(([]:List bM).length:Int))=false from rfl,zQ,a0,zC];simp only [zK];rw [wrap_i64 (by omega) (by omega),aKn a,zC,rsync_eq,zC,d1];have p:(gI (!decide (wd g 0=wd tab (aBk g%4))) (gB (app' 16 [] [(⟨0,1⟩:bM)]) λx=>some x) (some []))=some (flS g):=by
   rw [aQt _ (by simp)];unfold flS
   by_cases c2:wd g 0=wd tab (aBk g%4)
   ·rw [dT c2,if_pos c2];rfl
   ·rw [qD c2,if_neg c2];rfl
  rw [p,zC,rflaws_L2 a (aWh g) c,zC,o,zC,wrap_i64 (by omega) (by omega),d,zC,rsum_eq a,zC,d2];have j:(gI (!decide (wd g 61%2048=aHl g)) (gB (app' 16 (flP g) [(⟨61,3⟩:bM)]) λx=>some x) (some (flP g)))=some (flT g):=by
   have:=aXr g;rw [aQt _ (by omega)];unfold flT
   by_cases c2:wd g 61%2048=aHl g
   ·rw [dT c2,if_pos c2];rfl
   ·rw [qD c2,if_neg c2];rfl
  unfold flP at j;rw [j,zC,a2,zC,wrap_i64 (by omega) (by omega),e,zC,a3,zC,wrap_i64 (by omega) (by omega),wrap_i64 (by omega) (by omega),f,zC,wrap_i64 (by omega) (by omega),rcheck_eq a,zC,d3];have:=flT_len g;rw [aQt _ (by omega)];unfold flC
  by_cases c2:wd g 62%2048*2048+wd g 63%2048=checkN g
  ·rw [dT c2,if_pos c2];rfl
  ·rw [qD c2,if_neg c2];rfl
 ·rw [if_neg c,show decide (0<((flW g 64).length:Int))=true from dT (by have:=List.length_pos_iff.2 c;omega),zU]
theorem rSound_eq (a:Small g):Fc3 (en g h)=some (decide (qW g)):=by
 unfold Fc3;rw [rFlaws_eq a,zC];simp only [zK];congr 1;refine wS ?_;rw [<-aVt];constructor;intro h;exact List.eq_nil_of_length_eq_zero (by omega);intro h;rw [h];rfl
end
theorem aSi {n:Nat}(a:n<65536):Fbw (n:Int)=some (decide (qJ n)):=by
 unfold Fbw;simp only [zK];rw [wrap_i64 (by omega) (by omega),aYf a,zC];have b:decide ((n:Int)<=4095)=decide (n<=4095):=wS (by omega);have c:decide (qJ n)=(decide (n<=4095)&&decide (aIj n)):=by
  rw [Bool.eq_iff_iff,Bool.and_eq_true,decide_eq_true_eq,decide_eq_true_eq,decide_eq_true_eq];exact Iff.rfl
 rw [b,c];generalize decide (aIj n)=z
 cases decide (n<=4095)<;>rfl
section
variable {g:List Nat}{h:g.length=64}
theorem aVn (b:Small g):Fdr (en g h)=some ((aLq g).1,(aLq g).2):=by
 have c:at' (en g h).l 1=some ((wd g 1:Nat):Int):=kR (i:=1) (by decide);have a2:at' (en g h).l 2=some ((wd g 2:Nat):Int):=kR (i:=2) (by decide);unfold Fdr aLq;simp only [c,a2,zC,zK,aSi (b 1),aSi (b 2),aKn b];by_cases a:qJ (wd g 1);by_cases c2:qJ (wd g 2);rw [dT a,dT c2,if_pos ⟨a,c2⟩];rfl;rw [dT a,qD c2,if_neg (λq=>c2 q.2)];rfl;rw [qD a,if_neg (λq=>a q.1)];rfl
end
end Go.Lf
