/- Laws that the claim stands on; no condition beyond those stated. -/
import Derived.Test.YtbjofgmdhbiekaaGreatDoorUP
import Derived.Test.YtbjofgmdhbiekaaGreatDoorPLb
namespace Go.Fr1

def aAh:Nat->Nat->Nat
 |0,_=>0
 |f+1,n=>n%2+aAh f (n/2)
def pop (n:Nat):Nat:=aAh 16 n
def aHw (n:Nat):Prop:=pop n%2=1
instance (n:Nat):Decidable (aHw n):=by unfold aHw;exact inferInstance

theorem aIo: ∀(f n:Nat),aAh f n<=f
 |0,_=>Nat.le_refl _
 |f+1,n=>by have:=aIo f (n/2);have:=Nat.mod_lt n (show 0<2 by decide);unfold aAh;omega
theorem aJq: ∀(a b n:Nat),aAh (a+b) n=aAh a (n%2^a)+aAh b (n/2^a)
 |0,b,n=>by simp [aAh]
 |a+1,b,n=>by
  have c:=aJq a b (n/2);rw [show a+1+b=(a+b)+1 by omega,aAh,aAh,c];have d:n/2%2^a=n%2^(a+1)/2:=by
   rw [Nat.pow_succ,Nat.mul_comm,Nat.mod_mul_right_div_self]
  have e:n/2/2^a=n/2^(a+1):=by
   rw [Nat.div_div_eq_div_mul,Nat.pow_succ,Nat.mul_comm]
  have f:n%2^(a+1)%2=n%2:=Nat.mod_mod_of_dvd _ ⟨2^a,by rw [Nat.pow_succ,Nat.mul_comm]⟩;rw [d,e,f];omega
theorem aNn: ∀f,aAh f 0=0
 |0=>rfl
 |f+1=>by simp [aAh,aNn f]

theorem pop_eq {n:Nat}:aAh 8 (n/256)+aAh 8 (n%256)=pop n:=by
 have:=aJq 8 8 n;unfold pop;simp at this;omega

def wd (f:List Nat)(i:Nat):Nat:=f.getD i 0
def Small (f:List Nat):Prop:= ∀i,wd f i<65536
def aBc (f:List Nat):Nat:=wd f 1%2048+wd f 2%2048*2048
def aMw (f:List Nat):Nat->Nat
 |0=>0
 |k+1=>aMw f k^^^(wd f (k+1)%2048)
def aFz (f:List Nat):Nat:=aMw f 60
theorem aKe (f:List Nat): ∀k,aMw f k<2048
 |0=>by simp [aMw]
 |k+1=>by
  have a:=aKe f k;have b:wd f (k+1)%2048<2048:=Nat.mod_lt _ (by decide);exact Nat.xor_lt_two_pow (n:=11) a b
def qE (n b:Nat):Nat:=if decide (2097152<=n)==decide (b=1)then n*2%4194304 else(n*2%4194304)^^^2097167
def jL (n w:Nat):Nat->Nat
 |0=>n
 |j+1=>qE (jL n w j) (w/2^(11-j)%2)
def aEp (f:List Nat):Nat->Nat
 |0=>0
 |k+1=>jL (aEp f k) (wd f k) 12
def checkN (f:List Nat):Nat:=aEp f 62
theorem aVu (n b:Nat):qE n b<4194304:=by
 unfold qE;have h:n*2%4194304<4194304:=Nat.mod_lt _ (by decide);split;exact h;exact Nat.xor_lt_two_pow (n:=22) h (by decide)
theorem aLg {n w:Nat}(h:n<4194304): ∀j,jL n w j<4194304
 |0=>h
 |_+1=>aVu _ _
theorem aRk (f:List Nat): ∀k,aEp f k<4194304
 |0=>by simp [aEp]
 |k+1=>aLg (aRk f k) 12
theorem aUt {n b:Nat}(h:(!(decide (2097152<=n)==decide (b=1)))=false):qE n b=n*2%4194304:=by
 unfold qE;rw [if_pos (by simpa using h)]
theorem aSz {n b:Nat}(h:(!(decide (2097152<=n)==decide (b=1)))=true):qE n b=(n*2%4194304)^^^2097167:=by
 unfold qE;rw [if_neg (by simpa using h)]
theorem aUc {n w j:Nat}(h:(!(decide (2097152<=jL n w j)==decide (w/2^(11-j)%2=1)))=false):jL n w (j+1)=jL n w j*2%4194304:=aUt h
theorem aTe {n w j:Nat}(h:(!(decide (2097152<=jL n w j)==decide (w/2^(11-j)%2=1)))=true):jL n w (j+1)=(jL n w j*2%4194304)^^^2097167:=aSz h
def aGt (f:List Nat):Prop:= ∃i,i<64/\4095<wd f i
instance (f:List Nat):Decidable (aGt f):=by unfold aGt;exact inferInstance
theorem upto_succ {P:Nat->Prop}{k:Nat}(h: ∀i,i<k->P i)(b:P k): ∀i,i<k+1->P i:=λi hi=>by
 rcases Nat.lt_succ_iff_lt_or_eq.1 hi with a|a
 ·exact h i a
 ·subst a;exact b
def tab:List Nat:=[583,1464,2631,3512]
theorem aXv (f:List Nat):aBc f<4194304:=by unfold aBc;omega
def okD (x:Int):Prop:=0<=x/\x<=2047
instance (x:Int):Decidable (okD x):=by unfold okD;exact inferInstance
def okAll (d:List Int):Prop:= ∀i,i<58->okD (d.getD i 0)
instance (d:List Int):Decidable (okAll d):=decidable_of_iff (¬ ∃i,i<58/\ ¬okD (d.getD i 0)) ⟨λh i hi=>Decidable.byContradiction λhn=>h ⟨i,hi,hn⟩,λh ⟨i,hi,hn⟩=>hn (h i hi)⟩
def pK (n:Nat):Prop:=n<=4095/\aHw n
instance (n:Nat):Decidable (pK n):=by unfold pK;exact inferInstance
theorem notwide {f:List Nat} (b:f.length=64) (h: ¬aGt f) (i:Nat):wd f i<4096:=by
 by_cases hi:i<64;have q: ¬4095<wd f i:=λa=>h ⟨i,hi,a⟩;omega;unfold wd;rw [List.getD_eq_getElem?_getD,List.getElem?_eq_none (by omega)];simp
def L1:List Nat:=[0,2,1,2053,2048,2048,2048,2048,2048,2048,2048,2048,2048,2048,2048,2048,2048,2048,2048,2048,2048,2048,2048,2048,2048,2048,2048,2048,2048,2048,2048,2048,2048,2048,2048,2048,2048,2048,2048,2048,2048,2048,2048,2048,2048,2048,2048,2048,2048,2048,2048,2048,2048,2048,2048,2048,2048,2048,2048,2048,2048,0,0,0]
def L2:List Nat:=[2631,2,1,2053,2048,2048,2048,2048,2048,2048,2048,2048,2048,2048,2048,2048,2048,2048,2048,2048,2048,2048,2048,2048,2048,2048,2048,2048,2048,2048,2048,2048,2048,2048,2048,2048,2048,2048,2048,2048,2048,2048,2048,2048,2048,2048,2048,2048,2048,2048,2048,2048,2048,2048,2048,2048,2048,2048,2048,2048,2048,2054,0,0]
def zst (n:Nat):Nat:=(n*2%4194304)^^^(if 2097152<=n then 2097167 else 0)
theorem two_xor (x y:Nat):(x^^^y)*2=(x*2)^^^(y*2):=by
 have h:=Nat.shiftLeft_xor_distrib (a:=x) (b:=y) (i:=1);simpa [Nat.shiftLeft_eq]using h
theorem aVl {n:Nat}(_:n<4194304):n*2%4194304=n%2097152*2:=by omega
theorem aVk {n:Nat}:zst n<4194304:=by
 unfold zst;refine Nat.xor_lt_two_pow (n:=22) (Nat.mod_lt _ (by decide)) ?_;split<;>decide
theorem zst_xor {x y:Nat}(k:x<4194304)(m:y<4194304):zst (x^^^y)=zst x^^^zst y:=by
 have j:x^^^y<4194304:=Nat.xor_lt_two_pow (n:=22) k m;have o:(x^^^y)%2097152=x%2097152^^^y%2097152:=Nat.xor_mod_two_pow (n:=21);have e:(x^^^y)/2097152=x/2097152^^^y/2097152:=Nat.xor_div_two_pow (n:=21);unfold zst;rw [aVl k,aVl m,aVl j,o,two_xor];generalize x%2097152*2=p;generalize y%2097152*2=q;have f:x/2097152=0\/x/2097152=1:=by omega
 have i:y/2097152=0\/y/2097152=1:=by omega
 have s: ∀a b c d:Nat,(a^^^b)^^^(c^^^d)=(a^^^c)^^^(b^^^d):=by
  intro a b c d;rw [Nat.xor_assoc,Nat.xor_assoc,<-Nat.xor_assoc b,Nat.xor_comm b c,Nat.xor_assoc c]
 rcases f with f|f<;>rcases i with i|i<;>rw [f,i]at e
 ·rw [if_neg (by simp at e;omega),if_neg (by omega),if_neg (by omega),Nat.xor_zero,Nat.xor_zero,Nat.xor_zero]
 ·rw [if_pos (by simp at e;omega),if_neg (by omega),if_pos (by omega),Nat.xor_zero,Nat.xor_assoc]
 ·rw [if_pos (by simp at e;omega),if_pos (by omega),if_neg (by omega),Nat.xor_zero,Nat.xor_assoc,Nat.xor_assoc,Nat.xor_comm q]
 ·rw [if_neg (by simp at e;omega),if_pos (by omega),if_pos (by omega),Nat.xor_zero,s,Nat.xor_self,Nat.xor_zero]
def zs:Nat->Nat->Nat
 |0,n=>n
 |k+1,n=>zst (zs k n)
theorem zs_lt {n:Nat}(h:n<4194304): ∀k,zs k n<4194304
 |0=>h
 |_+1=>aVk
theorem zs_xor {x y:Nat}(a:x<4194304)(b:y<4194304): ∀k,zs k (x^^^y)=zs k x^^^zs k y
 |0=>rfl
 |k+1=>by unfold zs;rw [zs_xor a b k,zst_xor (zs_lt a k) (zs_lt b k)]
theorem aWu (n:Nat): ∀k,zs k (zst n)=zst (zs k n)
 |0=>rfl
 |k+1=>by unfold zs;rw [aWu n k]
theorem zs_one:zs 22 1=2097167:=by decide+kernel
theorem aOw: ∀k,zs k 0=0
 |0=>rfl
 |k+1=>by unfold zs;rw [aOw k];rfl
def tJ (n b:Nat):Nat:=if 4194304<=n*2+b then(n*2+b)^^^6291471 else n*2+b
theorem aWz {n b:Nat} (a:b<2):n*2+b=(n*2)^^^b:=by
 have:b=0\/b=1:=by omega
 rcases this with rfl|rfl
 ·simp
 ·apply Nat.eq_of_testBit_eq;intro i;rcases i with _|i
  ·simp [Nat.testBit_zero,Nat.xor_mod_two_eq_one]
  ·rw [Nat.testBit_xor];simp only [Nat.testBit_succ];rw [show(n*2+1)/2=n by omega,show n*2/2=n by omega];simp
theorem aDp {n b:Nat} (o:n<4194304) (a:b<2):tJ n b=zst n^^^b:=by
 have s:n*2+b<8388608:=by omega
 unfold tJ zst
 by_cases h:2097152<=n
 ·rw [if_pos (by omega),if_pos h,aWz a,show n*2%4194304=n*2-4194304 by omega];have e:n*2=(n*2-4194304)^^^4194304:=by
   have c:(n*2-4194304)<2^22:=by omega
   have t:n*2=2^22*1+(n*2-4194304):=by omega
   rw [Nat.xor_comm];have d:=Nat.two_pow_add_eq_or_of_lt c 1;have f:(2^22*1)&&& (n*2-4194304)=0:=by
    apply Nat.eq_of_testBit_eq;intro i;rw [Nat.testBit_and,Nat.mul_one,Nat.testBit_two_pow]
    by_cases hi:22=i
    ·subst hi;simp [Nat.testBit_lt_two_pow c]
    ·simp [hi]
   have j:(2^22*1)|||(n*2-4194304)=(2^22*1)^^^(n*2-4194304):=by
    apply Nat.eq_of_testBit_eq;intro i;have:=congrArg (λq=>q.testBit i) f;simp only [Nat.testBit_and,Nat.zero_testBit]at this;rw [Nat.testBit_or,Nat.testBit_xor]
    revert this
    generalize (2^22*1).testBit i=p;generalize (n*2-4194304).testBit i=q
    cases p<;>cases q<;>decide
   rw [j]at d;have u:4194304^^^(n*2-4194304)=4194304+(n*2-4194304):=d.symm;omega
  have k:(6291471:Nat)=4194304^^^2097167:=by decide
  rw [k];generalize hm:n*2-4194304=m at e⊢;rw [e];rw [Nat.xor_assoc m,Nat.xor_comm 4194304 b,<-Nat.xor_assoc m,Nat.xor_assoc (m^^^b),<-Nat.xor_assoc 4194304,Nat.xor_self,Nat.zero_xor,Nat.xor_assoc,Nat.xor_comm b,<-Nat.xor_assoc]
 ·rw [if_neg (by omega),if_neg h,aWz a,Nat.xor_zero,show n*2%4194304=n*2 by omega]
theorem aTy {n b:Nat}(a:n<4194304)(c:b<2):tJ n b<4194304:=by
 rw [aDp a c];exact Nat.xor_lt_two_pow (n:=22) aVk (by omega)
theorem aSy {n b:Nat}(_:n<4194304)(c:b<2):qE n b=zst n^^^(if b=1 then 2097167 else 0):=by
 unfold qE zst;have:b=0\/b=1:=by omega
 by_cases h:2097152<=n<;>rcases this with rfl|rfl<;>simp [h,Nat.xor_assoc]
theorem step_22 {r b:Nat}(a:r<4194304)(c:b<2):zs 22 (tJ r b)=qE (zs 22 r) b:=by
 rw [aDp a c,zs_xor aVk (by omega),aWu,aSy (zs_lt a 22) c];have:b=0\/b=1:=by omega
 rcases this with rfl|rfl
 ·rw [aOw];simp
 ·rw [zs_one];simp
def aAl (f:List Nat)(i:Nat):Nat:=if i<744 then wd f (i/12)/2^(11-i%12)%2 else 0
def mG (f:List Nat):Nat->Nat
 |0=>0
 |i+1=>tJ (mG f i) (aAl f i)
theorem aPj (f:List Nat)(i:Nat):aAl f i<2:=by unfold aAl;split<;>omega
theorem aFe (f:List Nat): ∀i,mG f i<4194304
 |0=>by show 0<4194304;decide
 |i+1=>aTy (aFe f i) (aPj f i)
theorem aSc (f:List Nat)(k:Nat)(a:k<62)(h:zs 22 (mG f (12*k))=aEp f k): ∀j,j<=12->zs 22 (mG f (12*k+j))=jL (aEp f k) (wd f k) j
 |0,_=>h
 |j+1,c=>by
  have b:=aSc f k a h j (by omega);show zs 22 (tJ (mG f (12*k+j)) (aAl f (12*k+j)))=qE (jL (aEp f k) (wd f k) j) (wd f k/2^(11-j)%2);rw [step_22 (aFe f _) (aPj f _),b]
  congr 1
  unfold aAl;rw [if_pos (by omega),show(12*k+j)/12=k by omega,show(12*k+j)%12=j by omega]
theorem aXx (f:List Nat): ∀k,k<=62->zs 22 (mG f (12*k))=aEp f k
 |0,_=>aOw 22
 |k+1,a=>aSc f k (by omega) (aXx f k (by omega)) 12 (Nat.le_refl _)
theorem aQl (f:List Nat): ∀j,mG f (744+j)=zs j (mG f 744)
 |0=>rfl
 |j+1=>by
  have a:=aQl f j;show tJ (mG f (744+j)) (aAl f (744+j))=zst (zs j (mG f 744));have b:aAl f (744+j)=0:=by unfold aAl;rw [if_neg (by omega)]
  rw [b,aDp (aFe f _) (by decide),Nat.xor_zero,a]
theorem ref_check {f:List Nat}{k:Nat}(a:k=766):mG f k=checkN f:=by
 subst a;rw [show 766=744+22 from rfl,aQl f 22,show 744=12*62 from rfl,aXx f 62 (Nat.le_refl _)];rfl
def aJx (f:List Nat):Int×Bool:=if pK (wd f 1)/\pK (wd f 2)then((aBc f:Nat),true)else(0,false)
end Go.Fr1
namespace Go.Lf
open Go.RowKit Go.OB Go.Fr1
def en (g:List Nat)(h:g.length=64):Arr 64 Int:=⟨g.map λn:Nat=>(n:Int),by rw [List.length_map];exact h⟩
theorem kS {c β:Type}{body:(c->Option β)->c->Option β}(E:Nat->c)(a n:Nat)(r:Option β)(f:a<=n)(t:n<=9223372036854775807)
  (j: ∀k i,a<=i->i<n->body k (E i)=k (E (i+1)))(o: ∀k,body k (E n)=r):gY body (E a)=r:=by
 have d: ∀m b i,i+m=n->a<=i->m<b->bZ body b (E i)=r:=by
  intro m
  induction m with
  |zero=>
   intro b i p e q;obtain⟨b,rfl⟩: ∃k,b=k+1:=⟨b-1,by omega⟩;have:i=n:=by omega
   subst this;exact o _
  |succ m s=>
   intro b i p e q;obtain⟨b,rfl⟩: ∃k,b=k+1:=⟨b-1,by omega⟩;show body (bZ body b) (E i)=r;rw [j _ i e (by omega)];exact s b (i+1) (by omega) (by omega) (by omega)
 exact d (n-a) FU a (by omega) (Nat.le_refl _) (aAv (by omega))
theorem kG {g:List Nat}{h:g.length=64}{i:Nat}(hi:i<64):at' (en g h).l (i:Int)=some ((wd g i:Nat):Int):=by
 rw [aBw];have:i<g.length:=by omega
 simp [en,wd,List.getD_eq_getElem?_getD,this]
theorem vV {p q:Prop} [Decidable p] [Decidable q] (h:p↔q):decide p=decide q:=decide_eq_decide.2 h
theorem vO {k:IntKind}{a b:Nat}(c:b<=k.bits):qH k (a:Int) (b:Int)=some ((a/2^b:Nat):Int):=by
 unfold qH;rw [if_pos ⟨by omega,by omega⟩];simp
theorem nM {a b:Nat}(c:b≠0):kX (a:Int) (b:Int)=some ((a%b:Nat):Int):=by
 unfold kX;rw [if_neg (by omega),Int.tmod_eq_emod_of_nonneg (by omega)];simp
theorem aVz {a b:Nat}(c:b≠0)(d:a<4611686018427387904):uJ .i64 (a:Int) (b:Int)=some ((a/b:Nat):Int):=by
 unfold uJ;have f:a/b<=a:=Nat.div_le_self _ _;have e:(a:Int)/(b:Int)=((a/b:Nat):Int):=by simp
 rw [if_neg (by omega),Int.tdiv_eq_ediv_of_nonneg (by omega),e];generalize a/b=q at *;rw [wrap_i64 (by omega) (by omega)]
theorem cnt_tab: ∀i:Fin 256,byte' [0,1,1,2,1,2,2,3,1,2,2,3,2,3,3,4,1,2,2,3,2,3,3,4,2,3,3,4,3,4,4,5,1,2,2,3,2,3,3,4,2,3,3,4,3,4,4,5,2,3,3,4,3,4,4,5,3,4,4,5,4,5,5,6,1,2,2,3,2,3,3,4,2,3,3,4,3,4,4,5,2,3,3,4,3,4,4,5,3,4,4,5,4,5,5,6,2,3,3,4,3,4,4,5,3,4,4,5,4,5,5,6,3,4,4,5,4,5,5,6,4,5,5,6,5,6,6,7,1,2,2,3,2,3,3,4,2,3,3,4,3,4,4,5,2,3,3,4,3,4,4,5,3,4,4,5,4,5,5,6,2,3,3,4,3,4,4,5,3,4,4,5,4,5,5,6,3,4,4,5,4,5,5,6,4,5,5,6,5,6,6,7,2,3,3,4,3,4,4,5,3,4,4,5,4,5,5,6,3,4,4,5,4,5,5,6,4,5,5,6,5,6,6,7,3,4,4,5,4,5,5,6,4,5,5,6,5,6,6,7,4,5,5,6,5,6,6,7,5,6,6,7,6,7,7,8] (i.val:Int)=some ((aAh 8 i.val:Nat):Int):=by decide+kernel
theorem cnt_at {i:Nat}(hi:i<256):byte' [0,1,1,2,1,2,2,3,1,2,2,3,2,3,3,4,1,2,2,3,2,3,3,4,2,3,3,4,3,4,4,5,1,2,2,3,2,3,3,4,2,3,3,4,3,4,4,5,2,3,3,4,3,4,4,5,3,4,4,5,4,5,5,6,1,2,2,3,2,3,3,4,2,3,3,4,3,4,4,5,2,3,3,4,3,4,4,5,3,4,4,5,4,5,5,6,2,3,3,4,3,4,4,5,3,4,4,5,4,5,5,6,3,4,4,5,4,5,5,6,4,5,5,6,5,6,6,7,1,2,2,3,2,3,3,4,2,3,3,4,3,4,4,5,2,3,3,4,3,4,4,5,3,4,4,5,4,5,5,6,2,3,3,4,3,4,4,5,3,4,4,5,4,5,5,6,3,4,4,5,4,5,5,6,4,5,5,6,5,6,6,7,2,3,3,4,3,4,4,5,3,4,4,5,4,5,5,6,3,4,4,5,4,5,5,6,4,5,5,6,5,6,6,7,3,4,4,5,4,5,5,6,4,5,5,6,5,6,6,7,4,5,5,6,5,6,6,7,5,6,6,7,6,7,7,8] (i:Int)=some ((aAh 8 i:Nat):Int):=cnt_tab ⟨i,hi⟩
theorem ones_eq {n:Nat}(f:n<65536):Fcb (n:Int)=some ((pop n:Nat):Int):=by
 have a:=cnt_at (i:=n/256) (by omega);have c:=cnt_at (i:=n%256) (by omega);have d:qH .u16 (n:Int) 8=some ((n/256:Nat):Int):=vO (b:=8) (by decide);have e:bits .and .u16 (n:Int) 255=((n%256:Nat):Int):=by rw [aFj (m:=256) 8 (by decide) (by decide) (by omega) (by omega)];omega
 have j:=aIo 8 (n/256);have k:=aIo 8 (n%256);have o:=pop_eq (n:=n);unfold Fcb;rw [d,zC,a,zC,zK,e,c,zC,zK,zK];generalize aAh 8 (n/256)=A at *;generalize aAh 8 (n%256)=B at *;rw [wrap_u8 (by omega) (by omega),wrap_i64 (by omega) (by omega)];congr 1;omega
theorem aLo {n:Nat}(a:n<65536):Fbc (n:Int)=some (decide (pK n)):=by
 have q:=aIo 16 n;unfold Fbc;simp only [zK,ones_eq a,zC];have e:kX ((pop n:Nat):Int) 2=some ((pop n%2:Nat):Int):=nM (b:=2) (by decide);rw [e];simp only [zC];have c:decide ((n:Int)<=4095)=decide (n<=4095):=vV (by omega);have d:decide (((pop n%2:Nat):Int)=1)=decide (aHw n):=vV (by unfold aHw;omega);have f:decide (pK n)=(decide (n<=4095)&&decide (aHw n)):=by
  rw [Bool.eq_iff_iff,Bool.and_eq_true,decide_eq_true_eq,decide_eq_true_eq,decide_eq_true_eq];exact Iff.rfl
 rw [c,d,f];generalize decide (aHw n)=z
 cases decide (n<=4095)<;>rfl
theorem aCn {x:Nat}(a:x<65536):Fan (x:Int)=some ((x%2048:Nat):Int):=by
 unfold Fan;simp only [zK];rw [aFj (m:=2048) 11 (by decide) (by decide) (by omega) (by omega),wrap_i64 (by omega) (by omega)];congr 1
section
variable {g:List Nat}{h:g.length=64}
theorem number_eq (a:Small g):Fbv (some (en g h))=some ((aBc g:Nat):Int):=by
 have b:=a 1;have c:=a 2;unfold Fbv;rw [zC,show(1:Int)=((1:Nat):Int)from rfl,kG (by decide),zC,aCn b,zC,zC,show(2:Int)=((2:Nat):Int)from rfl,kG (by decide),zC,aCn c,zC];have e:jI .i64 ((wd g 2%2048:Nat):Int) 11=some ((wd g 2%2048*2048:Nat):Int):=by
  unfold jI;rw [if_pos (by decide)]
  congr 1
  rw [show(2:Int)^(11:Int).toNat=2048 by decide,wrap_i64 (by omega) (by omega)];omega
 rw [e,zC,zK,OB.or_comm,aKg (m:=2048) 11 (by decide) (by omega) (by omega) (by omega) (by omega) (by omega) (by omega)];unfold aBc
 congr 1;omega
theorem sum_eq (a:Small g):Fec (some (en g h))=some ((aFz g:Nat):Int):=by
 have L:Fhn (some (en g h)) (0,0)=some ((aFz g:Nat):Int):=by
  unfold Fhn;refine kS (λi=>(((aMw g i:Nat):Int),((i:Nat):Int))) 0 60 _ (by decide) (by decide) (λk i _ _=>?_) (λk=>rfl);have b:=a (i+1);have d:=aKe g i;have c:((i:Int)+1)=((i+1:Nat):Int):=by omega
  simp only [zK];rw [show decide ((i:Int)<60)=true from dT (by omega),zU,wrap_i64 (by omega) (by omega),zC,c,kG (by omega),zC,aCn b,zC,
   aPs _ _ (by omega) (by omega)]
  rfl
 unfold Fec;rw [L,zC]
theorem crc_bits (a:Small g) {i:Nat} (hi:i<62) (n:Nat) (b:n<4194304):Fer (some (en g h)) (i:Int) ((n:Int),11)=some ((jL n (wd g i) 12:Nat):Int):=by
 unfold Fer;have v:=a i;refine kS (λj=>(((jL n (wd g i) j:Nat):Int),11-(j:Int))) 0 12 _ (by decide) (by decide) (λk j _ _=>?_) (λk=>?_)
 ·have c:=aLg (n:=n) (w:=wd g i) b j;generalize hq:jL n (wd g i) j=q at *
  have d:(11:Int)-(j:Int)=((11-j:Nat):Int):=by omega
  have e:jI .i64 (q:Int) 1=some ((q*2:Nat):Int):=by
   unfold jI;rw [if_pos (by decide)]
   congr 1
   rw [show(2:Int)^(1:Int).toNat=2 by decide,wrap_i64 (by omega) (by omega)];omega
  have f:bits .and .i64 ((q*2:Nat):Int) 4194303=((q*2%4194304:Nat):Int):=by
   rw [aEa (m:=4194304) 22 (by decide) (by decide) (by omega) (by omega)];omega
  have o:bits .and .u16 ((wd g i/2^(11-j):Nat):Int) 1=((wd g i/2^(11-j)%2:Nat):Int):=by
   have:wd g i/2^(11-j)<=wd g i:=Nat.div_le_self _ _;generalize wd g i/2^(11-j)=z at *
   rw [aFj (m:=2) 1 (by decide) (by decide) (by omega) (by omega)];omega
  simp only [zK];rw [show decide ((0:Int)<=11-(j:Int))=true from dT (by omega),zU,and_top c,e,zC,f,zC,kG (by omega),zC,d,vO (by show 11-j<=16;omega),zC,o];have p:decide ((if 2097152<=q then(2097152:Int)else 0)≠0)=decide (2097152<=q):=by split<;>simp_all
  have s:decide (((wd g i/2^(11-j)%2:Nat):Int)=1)=decide (wd g i/2^(11-j)%2=1):=vV (by omega);have t:IntKind.i64.wrap (((11-j:Nat):Int)-1)=11-((j+1:Nat):Int):=by rw [wrap_i64 (by omega) (by omega)];omega
  rw [p,s,t]
  cases hb:(!(decide (2097152<=q)==decide (wd g i/2^(11-j)%2=1)))with
  |true=>
   have u:bits .xor .i64 ((q*2%4194304:Nat):Int) 2097167=(((q*2%4194304)^^^2097167:Nat):Int):=aSx (q*2%4194304) 2097167 rfl rfl (by omega) (by decide);rw [zU,zC,u];rw [<-hq]at hb;rw [aTe hb,hq]
  |false=>
   rw [zQ,zC];rw [<-hq]at hb;rw [aUc hb,hq]
 ·simp only [zK];rw [show decide ((0:Int)<=11-((12:Nat):Int))=false from by decide,zQ]
theorem check_eq (a:Small g):Fcn (some (en g h))=some ((checkN g:Nat):Int):=by
 have L:Fhf (some (en g h)) (0,0)=some ((checkN g:Nat):Int):=by
  unfold Fhf;refine kS (λi=>(((aEp g i:Nat):Int),((i:Nat):Int))) 0 62 _ (by decide) (by decide) (λk i _ hi=>?_) (λk=>rfl);simp only [zK];rw [show decide ((i:Int)<62)=true from dT (by omega),zU,crc_bits a hi _ (aRk g i),zC,wrap_i64 (by omega) (by omega)];rfl
 unfold Fcn;rw [L,zC]
end
theorem aWy {k:Nat}(a:k<4):at' xJ.l (k:Int)=some ((wd tab k:Nat):Int):=by
 have: ∀i:Fin 4,at' xJ.l (i.val:Int)=some ((wd tab i.val:Nat):Int):=by decide+kernel
 exact this ⟨k,a⟩
theorem wide_eq {g:List Nat}{h:g.length=64}:Feg (some (en g h))=some (decide (aGt g)):=by
 unfold Feg;rw [yO];unfold Fia
 by_cases a:aGt g
 ·rw [dT a];obtain⟨i0,e,f⟩:=a
  -- the first one
  have: ∃m,m<64/\4095<wd g m/\ ∀i,i<m-> ¬4095<wd g i:=by
   have c: ∀n,(∀i,i<n-> ¬4095<wd g i)\/ ∃m,m<n/\4095<wd g m/\ ∀i,i<m-> ¬4095<wd g i:=by
    intro n
    induction n with
    |zero=>exact .inl λi hi=>by omega
    |succ n b=>
     rcases b with b|⟨m,_,j,o⟩
     ·by_cases d:4095<wd g n
      ·exact .inr ⟨n,by omega,d,b⟩
      ·exact .inl (upto_succ b d)
     ·exact .inr ⟨m,by omega,j,o⟩
   rcases c 64 with k|k
   ·exact absurd f (k i0 e)
   ·exact k
  obtain⟨m,m1,m2,m3⟩:=this;refine kS (λi=>(i:Int)) 0 m _ (by omega) (by omega) (λk i _ hi=>?_) (λk=>?_)
  ·simp only [zK];rw [show decide ((i:Int)<64)=true from dT (by omega),zU,zC,kG (by omega),zC,show decide ((4095:Int)<((wd g i:Nat):Int))=false from qD (by have:=m3 i hi;omega),zQ,wrap_i64 (by omega) (by omega)];rfl
  ·simp only [zK];rw [show decide ((m:Int)<64)=true from dT (by omega),zU,zC,kG (by omega),zC,show decide ((4095:Int)<((wd g m:Nat):Int))=true from dT (by omega),zU]
 ·rw [qD a];have p:=notwide h a;refine kS (λi=>(i:Int)) 0 64 _ (by decide) (by decide) (λk i _ hi=>?_) (λk=>rfl);simp only [zK];rw [show decide ((i:Int)<64)=true from dT (by omega),zU,zC,kG (by omega),zC,show decide ((4095:Int)<((wd g i:Nat):Int))=false from qD (by have:=p i;omega),zQ,wrap_i64 (by omega) (by omega)];rfl
def aHe (g:List Nat):Prop:= ∀i,i<64->1<=i->pK (wd g i)
instance (g:List Nat):Decidable (aHe g):=by unfold aHe;exact inferInstance
def qF (g:List Nat):Prop:= ¬aGt g/\wd g 0=wd tab (aBc g%4)/\wd g 61%2048=aFz g/\aHe g/\wd g 62%2048*2048+wd g 63%2048=checkN g
instance (g:List Nat):Decidable (qF g):=by unfold qF;exact inferInstance
theorem or_data {a b:Nat} (c:a<2048) (d:b<2048): ∃z,jI .i64 (a:Int) 11=some z/\bits .or .i64 z (b:Int)=((a*2048+b:Nat):Int):=by
 refine⟨((a*2048:Nat):Int),?_,?_⟩;unfold jI;rw [if_pos (by decide)];congr 1;rw [show(2:Int)^(11:Int).toNat=2048 by decide,wrap_i64 (by omega) (by omega)];omega;rw [aKg (m:=2048) 11 (by decide) (by omega) (by omega) (by omega) (by omega) (by omega) (by omega)];omega
section
variable {g:List Nat}{h:g.length=64}
theorem odds_loop (o:Small g) (k:Unit->Option Bool):Ffm (some (en g h)) k 1=if aHe g then k ()else some false:=by
 unfold Ffm;have p: ∀n,(∀i,1<=i->i<n->pK (wd g i))\/ ∃m,1<=m/\m<n/\ ¬pK (wd g m)/\ ∀i,1<=i->i<m->pK (wd g i):=by
  intro n
  induction n with
  |zero=>exact .inl λi _ hi=>by omega
  |succ n d=>
   rcases d with d|⟨m,f,v,j,q⟩
   ·by_cases w:1<=n
    ·by_cases s:pK (wd g n)
     ·refine .inl λi t x=>?_
      by_cases e:i=n
      ·subst e;exact s
      ·exact d i t (by omega)
     ·exact .inr ⟨n,w,by omega,s,d⟩
    ·exact .inl λi t x=>by omega
   ·exact .inr ⟨m,f,by omega,j,q⟩
 rcases p 64 with u|⟨m,f,v,j,q⟩
 ·rw [if_pos (show aHe g from λi a b=>u i b a)];refine kS (λi=>(i:Int)) 1 64 _ (by decide) (by decide) (λk i c hi=>?_) (λk=>rfl);simp only [zK];rw [show decide ((i:Int)<64)=true from dT (by omega),zU,zC,kG (by omega),zC,aLo (o i),zC,dT (u i c hi),wrap_i64 (by omega) (by omega)];rfl
 ·rw [if_neg (show¬aHe g from λa=>j (a m (by omega) f))];refine kS (λi=>(i:Int)) 1 m _ f (by omega) (λk i c hi=>?_) (λk=>?_)
  ·simp only [zK];rw [show decide ((i:Int)<64)=true from dT (by omega),zU,zC,kG (by omega),zC,aLo (o i),zC,dT (q i c hi),wrap_i64 (by omega) (by omega)];rfl
  ·simp only [zK];rw [show decide ((m:Int)<64)=true from dT (by omega),zU,zC,kG (by omega),zC,aLo (o m),zC,qD j];rfl
theorem sound_eq (c:Small g):Fcf (some (en g h))=some (decide (qF g)):=by
 have e:kX ((aBc g:Nat):Int) 4=some ((aBc g%4:Nat):Int):=nM (b:=4) (by decide);have k:=aXv g;have a0:at' (en g h).l 0=some ((wd g 0:Nat):Int):=kG (i:=0) (by decide);have f:at' (en g h).l 61=some ((wd g 61:Nat):Int):=kG (i:=61) (by decide);have a2:at' (en g h).l 62=some ((wd g 62:Nat):Int):=kG (i:=62) (by decide);have a3:at' (en g h).l 63=some ((wd g 63:Nat):Int):=kG (i:=63) (by decide);obtain⟨_,j,z2⟩:=or_data (a:=wd g 62%2048) (b:=wd g 63%2048) (by omega) (by omega);unfold Fcf;simp only [wide_eq,zC,zK,yO,number_eq c,e,aWy (show aBc g%4<4 by omega),a0,f,a2,a3,aCn (c 61),aCn (c 62),aCn (c 63),sum_eq c,check_eq c,j,z2,odds_loop c];have d1:decide (((wd g 0:Nat):Int)≠((wd tab (aBc g%4):Nat):Int))= !decide (wd g 0=wd tab (aBc g%4)):=by rw [Bool.eq_iff_iff];simp;omega
 have d2:decide (((wd g 61%2048:Nat):Int)≠((aFz g:Nat):Int))= !decide (wd g 61%2048=aFz g):=by rw [Bool.eq_iff_iff];simp;omega
 have d3:decide (((wd g 62%2048*2048+wd g 63%2048:Nat):Int)=((checkN g:Nat):Int))=decide (wd g 62%2048*2048+wd g 63%2048=checkN g):=vV (by omega);rw [d1,d2,d3];by_cases d:aGt g;rw [dT d,qD (show¬qF g from λq=>q.1 d)];rfl;by_cases c2:wd g 0=wd tab (aBc g%4);by_cases c3:wd g 61%2048=aFz g;by_cases c4:aHe g;rw [qD d,dT c2,dT c3,if_pos c4];show some _=some _;congr 1;exact vV ⟨λq=>⟨d,c2,c3,c4,q⟩,λq=>q.2.2.2.2⟩;rw [qD d,dT c2,dT c3,if_neg c4,qD (show¬qF g from λq=>c4 q.2.2.2.1)];rfl;rw [qD d,dT c2,qD c3,qD (show¬qF g from λq=>c3 q.2.2.1)];rfl;rw [qD d,qD c2,qD (show¬qF g from λq=>c2 q.2.1)];rfl
end
section
variable {g:List Nat}{h:g.length=64}
theorem Number_eq (b:Small g):Fct (en g h)=some ((aJx g).1,(aJx g).2):=by
 have c:at' (en g h).l 1=some ((wd g 1:Nat):Int):=kG (i:=1) (by decide);have a2:at' (en g h).l 2=some ((wd g 2:Nat):Int):=kG (i:=2) (by decide);unfold Fct aJx;simp only [c,a2,zC,zK,aLo (b 1),aLo (b 2),number_eq b];by_cases a:pK (wd g 1);by_cases c2:pK (wd g 2);rw [dT a,dT c2,if_pos ⟨a,c2⟩];rfl;rw [dT a,qD c2,if_neg (λq=>c2 q.2)];rfl;rw [qD a,if_neg (λq=>a q.1)];rfl
end
def flW (g:List Nat):Nat->List bT
 |0=>[]
 |k+1=>if 4095<wd g k then flW g k++[⟨(k:Nat),5⟩]else flW g k
def flO (l:List bT)(g:List Nat):Nat->List bT
 |0=>l
 |k+1=>if pK (wd g (k+1))then flO l g k else flO l g k++[⟨((k+1:Nat):Int),2⟩]
theorem aXj (g:List Nat): ∀k,(flW g k).length<=k
 |0=>by simp [flW]
 |k+1=>by have:=aXj g k;unfold flW;split<;>simp<;>omega
theorem aQb (l:List bT)(g:List Nat): ∀k,(flO l g k).length<=l.length+k
 |0=>by simp [flO]
 |k+1=>by have:=aQb l g k;unfold flO;split<;>simp<;>omega
theorem aNy (g:List Nat): ∀k,flW g k=[]↔ ∀i,i<k-> ¬4095<wd g i
 |0=>by simp [flW]
 |k+1=>by
  have a:=aNy g k;unfold flW;constructor
  ·intro h;split at h
   ·simp at h
   ·rename_i c;exact upto_succ (a.1 h) c
  ·intro h;rw [if_neg (h k (by omega))];exact a.2 λi _=>h i (by omega)
theorem aXs (g:List Nat): ∀k,flO [] g k=[]↔ ∀i,1<=i->i<k+1->pK (wd g i)
 |0=>by simp [flO];omega
 |k+1=>by
  have b:=aXs g k;unfold flO;constructor
  ·intro h;split at h
   ·rename_i c;intro i a d
    by_cases e:i=k+1
    ·subst e;exact c
    ·exact b.1 h i a (by omega)
   ·simp at h
  ·intro h;rw [if_pos (h (k+1) (by omega) (by omega))];exact b.2 λi a d=>h i a (by omega)
def flS (g:List Nat):List bT:=if wd g 0=wd tab (aBc g%4)then []else [⟨0,1⟩]
def flP (g:List Nat):List bT:=flO (flS g) g 63
def flT (g:List Nat):List bT:=if wd g 61%2048=aFz g then flP g else flP g++[⟨61,3⟩]
def flC (g:List Nat):List bT:=if wd g 62%2048*2048+wd g 63%2048=checkN g then flT g else flT g++[⟨62,4⟩]
def aOh (g:List Nat):List bT:=if flW g 64=[]then flC g else flW g 64
theorem aXa (g:List Nat):(flS g).length<=1:=by unfold flS;split<;>simp
theorem aVw (g:List Nat):(flP g).length<=64:=by have:=aQb (flS g) g 63;have:=aXa g;unfold flP;omega
theorem flT_len (g:List Nat):(flT g).length<=65:=by have:=aVw g;unfold flT;split<;>simp<;>omega
theorem aTa (g:List Nat):aOh g=[]↔qF g:=by
 have f:flW g 64=[]↔ ¬aGt g:=by
  rw [aNy];exact⟨λh ⟨i,d,e⟩=>h i d e,λh i d e=>h ⟨i,d,e⟩⟩
 have j:flO [] g 63=[]↔aHe g:=by
  rw [aXs];exact⟨λh i a b=>h i b a,λh i a b=>h i b a⟩
 have m: ∀(l:List bT) k,flO l g k=[]->l=[]:=by
  intro l k
  induction k with
  |zero=>exact id
  |succ k n=>
   intro h;unfold flO at h;split at h
   ·exact n h
   ·simp at h
 unfold aOh;constructor
 ·intro h;split at h
  ·rename_i c;unfold flC at h;split at h
   ·rename_i c5;unfold flT at h;split at h
    ·rename_i c3;unfold flP at h;have d:=m _ _ h;unfold flS at d;split at d
     ·rename_i c2;unfold flS at h;rw [if_pos c2]at h;exact⟨f.1 c,c2,c3,j.1 h,c5⟩
     ·simp at d
    ·simp at h
   ·simp at h
  ·rename_i c;exact absurd h c
 ·rintro⟨o,c2,c3,c4,c5⟩;rw [if_pos (f.2 o)];unfold flC flT flP flS;rw [if_pos c5,if_pos c3,if_pos c2];exact j.2 c4
theorem aQx {l:List bT}(x:bT)(h:l.length<=200):app' 16 l [x]=some (l++[x]):=by
 unfold app';rw [if_pos];rw [maxLen_eq];simp;omega
theorem rflaws_L1 {g:List Nat}{h:g.length=64}:Fg9 (en g h) ([],0)=some (flW g 64):=by
 unfold Fg9;refine kS (λi=>(flW g i,(i:Int))) 0 64 _ (by decide) (by decide) (λk i _ _=>?_) (λk=>rfl);have:=aXj g i;simp only [zK];rw [show decide ((i:Int)<64)=true from dT (by omega),zU,kG (by omega),zC,aQx _ (by omega),wrap_i64 (by omega) (by omega)];by_cases c:4095<wd g i;rw [show decide ((4095:Int)<((wd g i:Nat):Int))=true from dT (by omega),zU,zC,zC,show flW g (i+1)=flW g i++[⟨(i:Nat),5⟩]from if_pos c];rfl;rw [show decide ((4095:Int)<((wd g i:Nat):Int))=false from qD (by omega),zQ,zC,show flW g (i+1)=flW g i from if_neg c];rfl
theorem rsync_eq {n:Nat}:Fd1 (n:Int)=some ((wd tab (n%4):Nat):Int):=by
 have a:kX (n:Int) 4=some ((n%4:Nat):Int):=nM (b:=4) (by decide);unfold Fd1;rw [a,zC];have:=aWy (k:=n%4) (by omega);rw [show(⟨[583,1464,2631,3512],rfl⟩:Arr 4 Int)=xJ from rfl,this,zC]
theorem aWo {n:Nat} (p:n<65536):Fbq (n:Int)=some (decide (aHw n)):=by
 have q:Ffu ((n:Int),0)=some ((pop n:Nat):Int):=by
  have i: ∀(B:(Int×Int->Option Int)->Int×Int->Option Int),(∀k (a b:Int),B k (a,b)=gJ (decide (0<a)) (gB (kX a 2) λx=>gB (uJ .i64 a 2) λy=>k (y,IntKind.i64.wrap (b+x))) (some b))->
    ∀(f m c d:Nat),m<2^f->f<=16->c+f<=16->f<d->bZ B d ((m:Int),(c:Int))=some (((c+aAh f m:Nat):Int)):=by
   intro B o f
   induction f with
   |zero=>
    intro m c d j _ _ s;obtain⟨d,rfl⟩: ∃k,d=k+1:=⟨d-1,by omega⟩;have:m=0:=by omega
    subst this;rw [bZ,o];rfl
   |succ f t=>
    intro m c d j u _ s;obtain⟨d,rfl⟩: ∃k,d=k+1:=⟨d-1,by omega⟩;rw [bZ,o]
    by_cases v:m=0
    ·subst v;rw [aNn];rfl
    ·have w:kX (m:Int) 2=some ((m%2:Nat):Int):=nM (b:=2) (by decide);have hm:m<65536:=Nat.lt_of_lt_of_le j (Nat.pow_le_pow_right (n:=2) (by decide) u);have A:uJ .i64 (m:Int) 2=some ((m/2:Nat):Int):=aVz (b:=2) (by decide) (by omega);rw [show decide (0<(m:Int))=true from dT (by omega),zU,w,zC,A,zC,wrap_i64 (by omega) (by omega),show((c:Int)+((m%2:Nat):Int))=((c+m%2:Nat):Int)by omega];rw [t (m/2) (c+m%2) d (by rw [Nat.pow_succ]at j;omega) (by omega) (by omega) (by omega),aAh]
     congr 2;omega
  have e: ∀B:(Int×Int->Option Int)->Int×Int->Option Int,gY B ((n:Int),0)=bZ B FU ((n:Int),((0:Nat):Int)):=λB=>rfl
  unfold Ffu;rw [e,i _ (λk a b=>rfl) 16 n 0 FU p (by decide) (by decide) (by unfold FU;omega),Nat.zero_add];rfl
 unfold Fbq;rw [q,zC];have e:kX ((pop n:Nat):Int) 2=some ((pop n%2:Nat):Int):=nM (b:=2) (by decide);rw [e,zC,zK];refine congrArg some (vV ?_);unfold aHw;generalize pop n%2=z;omega
section
variable {g:List Nat}{h:g.length=64}
theorem rsum_eq (a:Small g):Fc9 (en g h)=some ((aFz g:Nat):Int):=by
 have L:Fhc (en g h) (0,1)=some ((aFz g:Nat):Int):=by
  unfold Fhc;refine kS (λi=>(((aMw g i:Nat):Int),((i+1:Nat):Int))) 0 60 _ (by decide) (by decide) (λk i _ _=>?_) (λk=>rfl);have c:=a (i+1);have d:=aKe g i;have e:kX ((wd g (i+1):Nat):Int) 2048=some ((wd g (i+1)%2048:Nat):Int):=nM (b:=2048) (by decide);simp only [zK];rw [show decide (((i+1:Nat):Int)<=60)=true from dT (by omega),zU,kG (by omega),zC,wrap_i64 (by omega) (by omega),e,zC,
   aPs _ _ (by omega) (by omega),wrap_i64 (by omega) (by omega)]
  rfl
 unfold Fc9;rw [L,zC]
theorem rcheck_eq (p:Small g):Fd0 (en g h)=some ((checkN g:Nat):Int):=by
 have L:Fgl (en g h) (0,0)=some ((checkN g:Nat):Int):=by
  unfold Fgl;rw [<-ref_check (f:=g) (k:=766) rfl];refine kS (λi=>(((mG g i:Nat):Int),((i:Nat):Int))) 0 766 _ (by decide) (by decide) (λk i _ _=>?_) (λk=>rfl);have v:=aFe g i;have q:=aPj g i;have w:=p (i/12);simp only [zK];rw [show decide ((i:Int)<766)=true from dT (by omega),zU];have a:(gJ (decide ((i:Int)<744)) (gB (uJ .i64 (i:Int) 12) λd=>gB (at' (en g h).l d) λe=>gB (kX (i:Int) 12) λj=>gB (qH .i64 (IntKind.i64.wrap e) (IntKind.i64.wrap (11-j))) λo=>some (bits .and .i64 o 1)) (some 0))=some ((aAl g i:Nat):Int):=by
   unfold aAl
   by_cases c:i<744
   ·rw [show decide ((i:Int)<744)=true from dT (by omega),zU,if_pos c];have s:uJ .i64 (i:Int) 12=some ((i/12:Nat):Int):=aVz (b:=12) (by decide) (by omega);have t:kX (i:Int) 12=some ((i%12:Nat):Int):=nM (b:=12) (by decide);rw [s,zC,kG (by omega),zC,t,zC,wrap_i64 (by omega) (by omega),wrap_i64 (by omega) (by omega),show(11:Int)-((i%12:Nat):Int)=((11-i%12:Nat):Int)by omega,
     vO (b:=11-i%12) (by show 11-i%12<=64;omega),zC]
    have:wd g (i/12)/2^(11-i%12)<=wd g (i/12):=Nat.div_le_self _ _;generalize wd g (i/12)/2^(11-i%12)=z at *
    rw [aEa (m:=2) 1 (by decide) (by decide) (by omega) (by omega)]
    congr 1
   ·rw [show decide ((i:Int)<744)=false from qD (by omega),zQ,if_neg c];rfl
  rw [a,zC,wrap_i64 (n:=((mG g i:Nat):Int)*2) (by omega) (by omega),wrap_i64 (n:=((mG g i:Nat):Int)*2+((aAl g i:Nat):Int)) (by omega) (by omega),wrap_i64 (n:=(i:Int)+1) (by omega) (by omega)];show gB _ _=k (((tJ (mG g i) (aAl g i):Nat):Int),_);rw [show((mG g i:Nat):Int)*2+((aAl g i:Nat):Int)=((mG g i*2+aAl g i:Nat):Int)by omega];unfold tJ
  by_cases c:4194304<=mG g i*2+aAl g i
  ·rw [show decide ((4194304:Int)<=((mG g i*2+aAl g i:Nat):Int))=true from dT (by omega),zU,zC];have u:bits .xor .i64 ((mG g i*2+aAl g i:Nat):Int) 6291471=(((mG g i*2+aAl g i)^^^6291471:Nat):Int):=aSx (mG g i*2+aAl g i) 6291471 rfl rfl (by omega) (by decide);rw [u,if_pos c];rfl
  ·rw [show decide ((4194304:Int)<=((mG g i*2+aAl g i:Nat):Int))=false from qD (by omega),zQ,zC,if_neg c];rfl
 unfold Fd0;rw [L,zC]
theorem aJp (a:Small g):Fbu (en g h)=some ((aBc g:Nat):Int):=by
 have j:=a 1;have k:=a 2;have c:at' (en g h).l 1=some ((wd g 1:Nat):Int):=kG (i:=1) (by decide);have a2:at' (en g h).l 2=some ((wd g 2:Nat):Int):=kG (i:=2) (by decide);have d:kX ((wd g 1:Nat):Int) 2048=some ((wd g 1%2048:Nat):Int):=nM (b:=2048) (by decide);have e:kX ((wd g 2:Nat):Int) 2048=some ((wd g 2%2048:Nat):Int):=nM (b:=2048) (by decide);unfold Fbu;simp only [zK];have f:IntKind.i64.wrap (((wd g 2%2048:Nat):Int)*2048)=((wd g 2%2048*2048:Nat):Int):=by rw [wrap_i64 (by omega) (by omega)];omega
 rw [c,zC,wrap_i64 (by omega) (by omega),d,zC,a2,zC,wrap_i64 (by omega) (by omega),e,zC,f,wrap_i64 (by omega) (by omega)];unfold aBc;congr 1
theorem rflaws_L2 (a:Small g) {l:List bT} (e:l.length<=1) (b:flW g 64=[]):Fgi (en g h) (l,1)=some (flO l g 63):=by
 unfold Fgi;refine(kS (λi=>(flO l g i,((i+1:Nat):Int))) 0 63 (some (flO l g 63)) (by decide) (by decide) (λk i _ _=>?_) (λk=>rfl));have:=aQb l g i;have f:=a (i+1);have j:=(aNy g 64).1 b (i+1) (by omega);simp only [zK];rw [show decide (((i+1:Nat):Int)<64)=true from dT (by omega),zU,kG (by omega),zC,wrap_i64 (by omega) (by omega),aWo (a _),zC,aQx _ (by omega),wrap_i64 (by omega) (by omega)];by_cases c:pK (wd g (i+1));rw [dT c.2,show flO l g (i+1)=flO l g i from if_pos c];rfl;have d: ¬aHw (wd g (i+1)):=λq=>c ⟨by omega,q⟩;rw [qD d,show flO l g (i+1)=flO l g i++[⟨((i+1:Nat):Int),2⟩]from if_neg c];rfl
theorem rFlaws_eq (a:Small g):Fdd (en g h)=some (aOh g):=by
 have q:=aXv g;have s:=a 0;have k:=a 61;have m:=a 62;have n:=a 63;have a0:at' (en g h).l 0=some ((wd g 0:Nat):Int):=kG (i:=0) (by decide);have o:at' (en g h).l 61=some ((wd g 61:Nat):Int):=kG (i:=61) (by decide);have a2:at' (en g h).l 62=some ((wd g 62:Nat):Int):=kG (i:=62) (by decide);have a3:at' (en g h).l 63=some ((wd g 63:Nat):Int):=kG (i:=63) (by decide);have d:kX ((wd g 61:Nat):Int) 2048=some ((wd g 61%2048:Nat):Int):=nM (b:=2048) (by decide);have e:kX ((wd g 62:Nat):Int) 2048=some ((wd g 62%2048:Nat):Int):=nM (b:=2048) (by decide);have f:kX ((wd g 63:Nat):Int) 2048=some ((wd g 63%2048:Nat):Int):=nM (b:=2048) (by decide);have d1:decide (((wd g 0:Nat):Int)≠((wd tab (aBc g%4):Nat):Int))= !decide (wd g 0=wd tab (aBc g%4)):=by rw [Bool.eq_iff_iff];simp;omega
 have d2:decide (((wd g 61%2048:Nat):Int)≠((aFz g:Nat):Int))= !decide (wd g 61%2048=aFz g):=by rw [Bool.eq_iff_iff];simp;omega
 have d3:decide ((((wd g 62%2048:Nat):Int)*2048+((wd g 63%2048:Nat):Int))≠((checkN g:Nat):Int))= !decide (wd g 62%2048*2048+wd g 63%2048=checkN g):=by rw [Bool.eq_iff_iff];simp;omega
 unfold Fdd aOh;rw [rflaws_L1,zC,zK,zK]
 by_cases c:flW g 64=[]
 ·rw [if_pos c,c];rw [show decide (0<(([]:List bT).length:Int))=false from rfl,zQ,a0,zC];simp only [zK];rw [wrap_i64 (by omega) (by omega),aJp a,zC,rsync_eq,zC,d1];have p:(gJ (!decide (wd g 0=wd tab (aBc g%4))) (gB (app' 16 [] [(⟨0,1⟩:bT)]) λx=>some x) (some []))=some (flS g):=by
   rw [aQx _ (by simp)];unfold flS
   by_cases c2:wd g 0=wd tab (aBc g%4)
   ·rw [dT c2,if_pos c2];rfl
   ·rw [qD c2,if_neg c2];rfl
  rw [p,zC,rflaws_L2 a (aXa g) c,zC,o,zC,wrap_i64 (by omega) (by omega),d,zC,rsum_eq a,zC,d2];have j:(gJ (!decide (wd g 61%2048=aFz g)) (gB (app' 16 (flP g) [(⟨61,3⟩:bT)]) λx=>some x) (some (flP g)))=some (flT g):=by
   have:=aVw g;rw [aQx _ (by omega)];unfold flT
   by_cases c2:wd g 61%2048=aFz g
   ·rw [dT c2,if_pos c2];rfl
   ·rw [qD c2,if_neg c2];rfl
  unfold flP at j;rw [j,zC,a2,zC,wrap_i64 (by omega) (by omega),e,zC,a3,zC,wrap_i64 (by omega) (by omega),wrap_i64 (by omega) (by omega),f,zC,wrap_i64 (by omega) (by omega),rcheck_eq a,zC,d3];have:=flT_len g;rw [aQx _ (by omega)];unfold flC
  by_cases c2:wd g 62%2048*2048+wd g 63%2048=checkN g
  ·rw [dT c2,if_pos c2];rfl
  ·rw [qD c2,if_neg c2];rfl
 ·rw [if_neg c,show decide (0<((flW g 64).length:Int))=true from dT (by have:=List.length_pos_iff.2 c;omega),zU]
theorem rSound_eq (a:Small g):Fcc (en g h)=some (decide (qF g)):=by
 unfold Fcc;rw [rFlaws_eq a,zC];simp only [zK];congr 1;refine vV ?_;rw [<-aTa];constructor;intro h;exact List.eq_nil_of_length_eq_zero (by omega);intro h;rw [h];rfl
end
theorem aQu {n:Nat}(a:n<65536):Fbg (n:Int)=some (decide (pK n)):=by
 unfold Fbg;simp only [zK];rw [wrap_i64 (by omega) (by omega),aWo a,zC];have b:decide ((n:Int)<=4095)=decide (n<=4095):=vV (by omega);have c:decide (pK n)=(decide (n<=4095)&&decide (aHw n)):=by
  rw [Bool.eq_iff_iff,Bool.and_eq_true,decide_eq_true_eq,decide_eq_true_eq,decide_eq_true_eq];exact Iff.rfl
 rw [b,c];generalize decide (aHw n)=z
 cases decide (n<=4095)<;>rfl
section
variable {g:List Nat}{h:g.length=64}
theorem aVb (b:Small g):Fdp (en g h)=some ((aJx g).1,(aJx g).2):=by
 have c:at' (en g h).l 1=some ((wd g 1:Nat):Int):=kG (i:=1) (by decide);have a2:at' (en g h).l 2=some ((wd g 2:Nat):Int):=kG (i:=2) (by decide);unfold Fdp aJx;simp only [c,a2,zC,zK,aQu (b 1),aQu (b 2),aJp b];by_cases a:pK (wd g 1);by_cases c2:pK (wd g 2);rw [dT a,dT c2,if_pos ⟨a,c2⟩];rfl;rw [dT a,qD c2,if_neg (λq=>c2 q.2)];rfl;rw [qD a,if_neg (λq=>a q.1)];rfl
end
end Go.Lf
