/- Laws that the claim stands on; no condition beyond those stated. -/
import Derived.Test.YtbjofgmdhbiekaaGreatDoorUP
import Derived.Test.YtbjofgmdhbiekaaGreatDoorPLb
namespace Go.Fr1

def wG:Nat->Nat->Nat
 |0,_=>0
 |f+1,n=>n%2+wG f (n/2)
def pop (n:Nat):Nat:=wG 16 n
def aHx (n:Nat):Prop:=pop n%2=1
instance (n:Nat):Decidable (aHx n):=by unfold aHx;exact inferInstance

theorem aJc: ∀(f n:Nat),wG f n<=f
 |0,_=>Nat.le_refl _
 |f+1,n=>by have:=aJc f (n/2);have:=Nat.mod_lt n (show 0<2 by decide);unfold wG;omega
theorem aLk: ∀(a b n:Nat),wG (a+b) n=wG a (n%2^a)+wG b (n/2^a)
 |0,b,n=>by simp [wG]
 |a+1,b,n=>by
  have c:=aLk a b (n/2);rw [show a+1+b=(a+b)+1 by omega,wG,wG,c];have d:n/2%2^a=n%2^(a+1)/2:=by
   rw [Nat.pow_succ,Nat.mul_comm,Nat.mod_mul_right_div_self]
  have e:n/2/2^a=n/2^(a+1):=by
   rw [Nat.div_div_eq_div_mul,Nat.pow_succ,Nat.mul_comm]
  have f:n%2^(a+1)%2=n%2:=Nat.mod_mod_of_dvd _ ⟨2^a,by rw [Nat.pow_succ,Nat.mul_comm]⟩;rw [d,e,f];omega
theorem aNt: ∀f,wG f 0=0
 |0=>rfl
 |f+1=>by simp [wG,aNt f]

theorem pop_eq {n:Nat}:wG 8 (n/256)+wG 8 (n%256)=pop n:=by
 have:=aLk 8 8 n;unfold pop;simp at this;omega

def wd (f:List Nat)(i:Nat):Nat:=f.getD i 0
def Small (f:List Nat):Prop:= ∀i,wd f i<65536
def aAh (f:List Nat):Nat:=wd f 1%2048+wd f 2%2048*2048
def aNc (f:List Nat):Nat->Nat
 |0=>0
 |k+1=>aNc f k^^^(wd f (k+1)%2048)
def aGq (f:List Nat):Nat:=aNc f 60
theorem aKy (f:List Nat): ∀k,aNc f k<2048
 |0=>by simp [aNc]
 |k+1=>by
  have h1:=aKy f k;have a:wd f (k+1)%2048<2048:=Nat.mod_lt _ (by decide);exact Nat.xor_lt_two_pow (n:=11) h1 a
def qE (n b:Nat):Nat:=if decide (2097152<=n)==decide (b=1)then n*2%4194304 else(n*2%4194304)^^^2097167
def jU (n w:Nat):Nat->Nat
 |0=>n
 |j+1=>qE (jU n w j) (w/2^(11-j)%2)
def aEr (f:List Nat):Nat->Nat
 |0=>0
 |k+1=>jU (aEr f k) (wd f k) 12
def checkN (f:List Nat):Nat:=aEr f 62
theorem aXs (n b:Nat):qE n b<4194304:=by
 unfold qE;have h:n*2%4194304<4194304:=Nat.mod_lt _ (by decide);split;exact h;exact Nat.xor_lt_two_pow (n:=22) h (by decide)
theorem aLq {n w:Nat}(h:n<4194304): ∀j,jU n w j<4194304
 |0=>h
 |_+1=>aXs _ _
theorem aTo (f:List Nat): ∀k,aEr f k<4194304
 |0=>by simp [aEr]
 |k+1=>aLq (aTo f k) 12
theorem aVq {n b:Nat}(h:(!(decide (2097152<=n)==decide (b=1)))=false):qE n b=n*2%4194304:=by
 unfold qE;rw [if_pos (by simpa using h)]
theorem aWy {n b:Nat}(h:(!(decide (2097152<=n)==decide (b=1)))=true):qE n b=(n*2%4194304)^^^2097167:=by
 unfold qE;rw [if_neg (by simpa using h)]
theorem aWg {n w j:Nat}(h:(!(decide (2097152<=jU n w j)==decide (w/2^(11-j)%2=1)))=false):jU n w (j+1)=jU n w j*2%4194304:=aVq h
theorem aUt {n w j:Nat}(h:(!(decide (2097152<=jU n w j)==decide (w/2^(11-j)%2=1)))=true):jU n w (j+1)=(jU n w j*2%4194304)^^^2097167:=aWy h
def aHs (f:List Nat):Prop:= ∃i,i<64/\4095<wd f i
instance (f:List Nat):Decidable (aHs f):=by unfold aHs;exact inferInstance
theorem upto_succ {P:Nat->Prop}{k:Nat}(h: ∀i,i<k->P i)(hk:P k): ∀i,i<k+1->P i:=λi hi=>by
 rcases Nat.lt_succ_iff_lt_or_eq.1 hi with h1|h1
 ·exact h i h1
 ·subst h1;exact hk
def tab:List Nat:=[583,1464,2631,3512]
theorem aYu (f:List Nat):aAh f<4194304:=by unfold aAh;omega
def okD (x:Int):Prop:=0<=x/\x<=2047
instance (x:Int):Decidable (okD x):=by unfold okD;exact inferInstance
def okAll (d:List Int):Prop:= ∀i,i<58->okD (d.getD i 0)
instance (d:List Int):Decidable (okAll d):=decidable_of_iff (¬ ∃i,i<58/\ ¬okD (d.getD i 0)) ⟨λh i hi=>Decidable.byContradiction λhn=>h ⟨i,hi,hn⟩,λh ⟨i,hi,hn⟩=>hn (h i hi)⟩
def pO (n:Nat):Prop:=n<=4095/\aHx n
instance (n:Nat):Decidable (pO n):=by unfold pO;exact inferInstance
theorem notwide {f:List Nat} (b:f.length=64) (h: ¬aHs f) (i:Nat):wd f i<4096:=by
 by_cases hi:i<64;have q: ¬4095<wd f i:=λa=>h ⟨i,hi,a⟩;omega;unfold wd;rw [List.getD_eq_getElem?_getD,List.getElem?_eq_none (by omega)];simp
def zst (n:Nat):Nat:=(n*2%4194304)^^^(if 2097152<=n then 2097167 else 0)
theorem two_xor (x y:Nat):(x^^^y)*2=(x*2)^^^(y*2):=by
 have h:=Nat.shiftLeft_xor_distrib (a:=x) (b:=y) (i:=1);simpa [Nat.shiftLeft_eq]using h
theorem aXm {n:Nat}(_:n<4194304):n*2%4194304=n%2097152*2:=by omega
theorem aVl {n:Nat}:zst n<4194304:=by
 unfold zst;refine Nat.xor_lt_two_pow (n:=22) (Nat.mod_lt _ (by decide)) ?_;split<;>decide
theorem zst_xor {x y:Nat}(k:x<4194304)(l:y<4194304):zst (x^^^y)=zst x^^^zst y:=by
 have j:x^^^y<4194304:=Nat.xor_lt_two_pow (n:=22) k l;have h1:(x^^^y)%2097152=x%2097152^^^y%2097152:=Nat.xor_mod_two_pow (n:=21);have e:(x^^^y)/2097152=x/2097152^^^y/2097152:=Nat.xor_div_two_pow (n:=21);unfold zst;rw [aXm k,aXm l,aXm j,h1,two_xor];generalize x%2097152*2=p;generalize y%2097152*2=q;have f:x/2097152=0\/x/2097152=1:=by omega
 have i:y/2097152=0\/y/2097152=1:=by omega
 have m: ∀a b c d:Nat,(a^^^b)^^^(c^^^d)=(a^^^c)^^^(b^^^d):=by
  intro a b c d;rw [Nat.xor_assoc,Nat.xor_assoc,<-Nat.xor_assoc b,Nat.xor_comm b c,Nat.xor_assoc c]
 rcases f with f|f<;>rcases i with i|i<;>rw [f,i]at e
 ·rw [if_neg (by simp at e;omega),if_neg (by omega),if_neg (by omega),Nat.xor_zero,Nat.xor_zero,Nat.xor_zero]
 ·rw [if_pos (by simp at e;omega),if_neg (by omega),if_pos (by omega),Nat.xor_zero,Nat.xor_assoc]
 ·rw [if_pos (by simp at e;omega),if_pos (by omega),if_neg (by omega),Nat.xor_zero,Nat.xor_assoc,Nat.xor_assoc,Nat.xor_comm q]
 ·rw [if_neg (by simp at e;omega),if_pos (by omega),if_pos (by omega),Nat.xor_zero,m,Nat.xor_self,Nat.xor_zero]
def zs:Nat->Nat->Nat
 |0,n=>n
 |k+1,n=>zst (zs k n)
theorem zs_lt {n:Nat}(h:n<4194304): ∀k,zs k n<4194304
 |0=>h
 |_+1=>aVl
theorem zs_xor {x y:Nat}(a:x<4194304)(b:y<4194304): ∀k,zs k (x^^^y)=zs k x^^^zs k y
 |0=>rfl
 |k+1=>by unfold zs;rw [zs_xor a b k,zst_xor (zs_lt a k) (zs_lt b k)]
theorem aYl (n:Nat): ∀k,zs k (zst n)=zst (zs k n)
 |0=>rfl
 |k+1=>by unfold zs;rw [aYl n k]
theorem zs_one:zs 22 1=2097167:=by decide+kernel
theorem aPg: ∀k,zs k 0=0
 |0=>rfl
 |k+1=>by unfold zs;rw [aPg k];rfl
def sZ (n b:Nat):Nat:=if 4194304<=n*2+b then(n*2+b)^^^6291471 else n*2+b
theorem aZf {n b:Nat} (a:b<2):n*2+b=(n*2)^^^b:=by
 have:b=0\/b=1:=by omega
 rcases this with rfl|rfl
 ·simp
 ·apply Nat.eq_of_testBit_eq;intro i;rcases i with _|i
  ·simp [Nat.testBit_zero,Nat.xor_mod_two_eq_one]
  ·rw [Nat.testBit_xor];simp only [Nat.testBit_succ];rw [show(n*2+1)/2=n by omega,show n*2/2=n by omega];simp
theorem aEa {n b:Nat} (l:n<4194304) (a:b<2):sZ n b=zst n^^^b:=by
 have h1:n*2+b<8388608:=by omega
 unfold sZ zst
 by_cases h:2097152<=n
 ·rw [if_pos (by omega),if_pos h,aZf a,show n*2%4194304=n*2-4194304 by omega];have e:n*2=(n*2-4194304)^^^4194304:=by
   have c:(n*2-4194304)<2^22:=by omega
   have o:n*2=2^22*1+(n*2-4194304):=by omega
   rw [Nat.xor_comm];have d:=Nat.two_pow_add_eq_or_of_lt c 1;have f:(2^22*1)&&& (n*2-4194304)=0:=by
    apply Nat.eq_of_testBit_eq;intro i;rw [Nat.testBit_and,Nat.mul_one,Nat.testBit_two_pow]
    by_cases hi:22=i
    ·subst hi;simp [Nat.testBit_lt_two_pow c]
    ·simp [hi]
   have j:(2^22*1)|||(n*2-4194304)=(2^22*1)^^^(n*2-4194304):=by
    apply Nat.eq_of_testBit_eq;intro i;have:=congrArg (λq=>q.testBit i) f;simp only [Nat.testBit_and,Nat.zero_testBit]at this;rw [Nat.testBit_or,Nat.testBit_xor]
    revert this
    generalize (2^22*1).testBit i=p;generalize (n*2-4194304).testBit i=q
    cases p<;>cases q<;>decide
   rw [j]at d;have r:4194304^^^(n*2-4194304)=4194304+(n*2-4194304):=d.symm;omega
  have k:(6291471:Nat)=4194304^^^2097167:=by decide
  rw [k];generalize hm:n*2-4194304=m at e⊢;rw [e];rw [Nat.xor_assoc m,Nat.xor_comm 4194304 b,<-Nat.xor_assoc m,Nat.xor_assoc (m^^^b),<-Nat.xor_assoc 4194304,Nat.xor_self,Nat.zero_xor,Nat.xor_assoc,Nat.xor_comm b,<-Nat.xor_assoc]
 ·rw [if_neg (by omega),if_neg h,aZf a,Nat.xor_zero,show n*2%4194304=n*2 by omega]
theorem aXc {n b:Nat}(a:n<4194304)(c:b<2):sZ n b<4194304:=by
 rw [aEa a c];exact Nat.xor_lt_two_pow (n:=22) aVl (by omega)
theorem aSj {n b:Nat}(_:n<4194304)(c:b<2):qE n b=zst n^^^(if b=1 then 2097167 else 0):=by
 unfold qE zst;have:b=0\/b=1:=by omega
 by_cases h:2097152<=n<;>rcases this with rfl|rfl<;>simp [h,Nat.xor_assoc]
theorem step_22 {r b:Nat}(a:r<4194304)(c:b<2):zs 22 (sZ r b)=qE (zs 22 r) b:=by
 rw [aEa a c,zs_xor aVl (by omega),aYl,aSj (zs_lt a 22) c];have:b=0\/b=1:=by omega
 rcases this with rfl|rfl
 ·rw [aPg];simp
 ·rw [zs_one];simp
def wC (f:List Nat)(i:Nat):Nat:=if i<744 then wd f (i/12)/2^(11-i%12)%2 else 0
def mM (f:List Nat):Nat->Nat
 |0=>0
 |i+1=>sZ (mM f i) (wC f i)
theorem aOu (f:List Nat)(i:Nat):wC f i<2:=by unfold wC;split<;>omega
theorem aFl (f:List Nat): ∀i,mM f i<4194304
 |0=>by show 0<4194304;decide
 |i+1=>aXc (aFl f i) (aOu f i)
theorem aSt (f:List Nat)(k:Nat)(hk:k<62)(h:zs 22 (mM f (12*k))=aEr f k): ∀j,j<=12->zs 22 (mM f (12*k+j))=jU (aEr f k) (wd f k) j
 |0,_=>h
 |j+1,b=>by
  have a:=aSt f k hk h j (by omega);show zs 22 (sZ (mM f (12*k+j)) (wC f (12*k+j)))=qE (jU (aEr f k) (wd f k) j) (wd f k/2^(11-j)%2);rw [step_22 (aFl f _) (aOu f _),a]
  congr 1
  unfold wC;rw [if_pos (by omega),show(12*k+j)/12=k by omega,show(12*k+j)%12=j by omega]
theorem bAj (f:List Nat): ∀k,k<=62->zs 22 (mM f (12*k))=aEr f k
 |0,_=>aPg 22
 |k+1,hk=>aSt f k (by omega) (bAj f k (by omega)) 12 (Nat.le_refl _)
theorem aTk (f:List Nat): ∀j,mM f (744+j)=zs j (mM f 744)
 |0=>rfl
 |j+1=>by
  have a:=aTk f j;show sZ (mM f (744+j)) (wC f (744+j))=zst (zs j (mM f 744));have b:wC f (744+j)=0:=by unfold wC;rw [if_neg (by omega)]
  rw [b,aEa (aFl f _) (by decide),Nat.xor_zero,a]
theorem ref_check {f:List Nat}{k:Nat}(hk:k=766):mM f k=checkN f:=by
 subst hk;rw [show 766=744+22 from rfl,aTk f 22,show 744=12*62 from rfl,bAj f 62 (Nat.le_refl _)];rfl
def aKh (f:List Nat):Int×Bool:=if pO (wd f 1)/\pO (wd f 2)then((aAh f:Nat),true)else(0,false)
end Go.Fr1
namespace Go.Lf
open Go.RowKit Go.OB Go.Fr1
def en (g:List Nat)(h:g.length=64):Arr 64 Int:=⟨g.map λn:Nat=>(n:Int),by rw [List.length_map];exact h⟩
theorem kV {c d:Type}{body:(c->Option d)->c->Option d}(E:Nat->c)(a n:Nat)(r:Option d)(j:a<=n)(s:n<=9223372036854775807)
  (l: ∀k i,a<=i->i<n->body k (E i)=k (E (i+1)))(o: ∀k,body k (E n)=r):gZ body (E a)=r:=by
 have e: ∀m b i,i+m=n->a<=i->m<b->kC body b (E i)=r:=by
  intro m
  induction m with
  |zero=>
   intro b i h1 f p;obtain⟨b,rfl⟩: ∃k,b=k+1:=⟨b-1,by omega⟩;have:i=n:=by omega
   subst this;exact o _
  |succ m q=>
   intro b i h1 f p;obtain⟨b,rfl⟩: ∃k,b=k+1:=⟨b-1,by omega⟩;show body (kC body b) (E i)=r;rw [l _ i f (by omega)];exact q b (i+1) (by omega) (by omega) (by omega)
 exact e (n-a) FU a (by omega) (Nat.le_refl _) (aLo (by omega))
theorem kK {g:List Nat}{h:g.length=64}{i:Nat}(hi:i<64):at' (en g h).l (i:Int)=some ((wd g i:Nat):Int):=by
 rw [aAb];have:i<g.length:=by omega
 simp [en,wd,List.getD_eq_getElem?_getD,this]
theorem vG {p q:Prop} [Decidable p] [Decidable q] (h:p↔q):decide p=decide q:=decide_eq_decide.2 h
theorem aAp {k:IntKind}{a b:Nat}(c:b<=k.bits):aAe k (a:Int) (b:Int)=some ((a/2^b:Nat):Int):=by
 unfold aAe;rw [if_pos ⟨by omega,by omega⟩];simp
theorem nO {a b:Nat}(c:b≠0):kW (a:Int) (b:Int)=some ((a%b:Nat):Int):=by
 unfold kW;rw [if_neg (by omega),Int.tmod_eq_emod_of_nonneg (by omega)];simp
theorem aZx {a b:Nat}(c:b≠0)(d:a<4611686018427387904):pX .i64 (a:Int) (b:Int)=some ((a/b:Nat):Int):=by
 unfold pX;have h1:a/b<=a:=Nat.div_le_self _ _;have e:(a:Int)/(b:Int)=((a/b:Nat):Int):=by simp
 rw [if_neg (by omega),Int.tdiv_eq_ediv_of_nonneg (by omega),e];generalize a/b=q at *;rw [wrap_i64 (by omega) (by omega)]
theorem cnt_tab: ∀i:Fin 256,byte' [0,1,1,2,1,2,2,3,1,2,2,3,2,3,3,4,1,2,2,3,2,3,3,4,2,3,3,4,3,4,4,5,1,2,2,3,2,3,3,4,2,3,3,4,3,4,4,5,2,3,3,4,3,4,4,5,3,4,4,5,4,5,5,6,1,2,2,3,2,3,3,4,2,3,3,4,3,4,4,5,2,3,3,4,3,4,4,5,3,4,4,5,4,5,5,6,2,3,3,4,3,4,4,5,3,4,4,5,4,5,5,6,3,4,4,5,4,5,5,6,4,5,5,6,5,6,6,7,1,2,2,3,2,3,3,4,2,3,3,4,3,4,4,5,2,3,3,4,3,4,4,5,3,4,4,5,4,5,5,6,2,3,3,4,3,4,4,5,3,4,4,5,4,5,5,6,3,4,4,5,4,5,5,6,4,5,5,6,5,6,6,7,2,3,3,4,3,4,4,5,3,4,4,5,4,5,5,6,3,4,4,5,4,5,5,6,4,5,5,6,5,6,6,7,3,4,4,5,4,5,5,6,4,5,5,6,5,6,6,7,4,5,5,6,5,6,6,7,5,6,6,7,6,7,7,8] (i.val:Int)=some ((wG 8 i.val:Nat):Int):=by decide+kernel
theorem cnt_at {i:Nat}(hi:i<256):byte' [0,1,1,2,1,2,2,3,1,2,2,3,2,3,3,4,1,2,2,3,2,3,3,4,2,3,3,4,3,4,4,5,1,2,2,3,2,3,3,4,2,3,3,4,3,4,4,5,2,3,3,4,3,4,4,5,3,4,4,5,4,5,5,6,1,2,2,3,2,3,3,4,2,3,3,4,3,4,4,5,2,3,3,4,3,4,4,5,3,4,4,5,4,5,5,6,2,3,3,4,3,4,4,5,3,4,4,5,4,5,5,6,3,4,4,5,4,5,5,6,4,5,5,6,5,6,6,7,1,2,2,3,2,3,3,4,2,3,3,4,3,4,4,5,2,3,3,4,3,4,4,5,3,4,4,5,4,5,5,6,2,3,3,4,3,4,4,5,3,4,4,5,4,5,5,6,3,4,4,5,4,5,5,6,4,5,5,6,5,6,6,7,2,3,3,4,3,4,4,5,3,4,4,5,4,5,5,6,3,4,4,5,4,5,5,6,4,5,5,6,5,6,6,7,3,4,4,5,4,5,5,6,4,5,5,6,5,6,6,7,4,5,5,6,5,6,6,7,5,6,6,7,6,7,7,8] (i:Int)=some ((wG 8 i:Nat):Int):=cnt_tab ⟨i,hi⟩
theorem ones_eq {n:Nat}(e:n<65536):Fc3 (n:Int)=some ((pop n:Nat):Int):=by
 have h1:=cnt_at (i:=n/256) (by omega);have a:=cnt_at (i:=n%256) (by omega);have c:aAe .u16 (n:Int) 8=some ((n/256:Nat):Int):=aAp (b:=8) (by decide);have d:bits .and .u16 (n:Int) 255=((n%256:Nat):Int):=by rw [aEo (m:=256) 8 (by decide) (by decide) (by omega) (by omega)];omega
 have f:=aJc 8 (n/256);have j:=aJc 8 (n%256);have k:=pop_eq (n:=n);unfold Fc3;rw [c,zC,h1,zC,zD,d,a,zC,zD,zD];generalize wG 8 (n/256)=A at *;generalize wG 8 (n%256)=B at *;rw [wrap_u8 (by omega) (by omega),wrap_i64 (by omega) (by omega)];congr 1;omega
theorem aKd {n:Nat}(a:n<65536):Faz (n:Int)=some (decide (pO n)):=by
 have q:=aJc 16 n;unfold Faz;simp only [zD,ones_eq a,zC];have e:kW ((pop n:Nat):Int) 2=some ((pop n%2:Nat):Int):=nO (b:=2) (by decide);rw [e];simp only [zC];have c:decide ((n:Int)<=4095)=decide (n<=4095):=vG (by omega);have d:decide (((pop n%2:Nat):Int)=1)=decide (aHx n):=vG (by unfold aHx;omega);have f:decide (pO n)=(decide (n<=4095)&&decide (aHx n)):=by
  rw [Bool.eq_iff_iff,Bool.and_eq_true,decide_eq_true_eq,decide_eq_true_eq,decide_eq_true_eq];exact Iff.rfl
 rw [c,d,f];generalize decide (aHx n)=z
 cases decide (n<=4095)<;>rfl
theorem aCa {x:Nat}(a:x<65536):Fal (x:Int)=some ((x%2048:Nat):Int):=by
 unfold Fal;simp only [zD];rw [aEo (m:=2048) 11 (by decide) (by decide) (by omega) (by omega),wrap_i64 (by omega) (by omega)];congr 1
section
variable {g:List Nat}{h:g.length=64}
theorem number_eq (a:Small g):Fbu (some (en g h))=some ((aAh g:Nat):Int):=by
 have h1:=a 1;have b:=a 2;unfold Fbu;rw [zC,show(1:Int)=((1:Nat):Int)from rfl,kK (by decide),zC,aCa h1,zC,zC,show(2:Int)=((2:Nat):Int)from rfl,kK (by decide),zC,aCa b,zC];have e:jS .i64 ((wd g 2%2048:Nat):Int) 11=some ((wd g 2%2048*2048:Nat):Int):=by
  unfold jS;rw [if_pos (by decide)]
  congr 1
  rw [show(2:Int)^(11:Int).toNat=2048 by decide,wrap_i64 (by omega) (by omega)];omega
 rw [e,zC,zD,OB.or_comm,aJg (m:=2048) 11 (by decide) (by omega) (by omega) (by omega) (by omega) (by omega) (by omega)];unfold aAh
 congr 1;omega
theorem sum_eq (a:Small g):Fcc (some (en g h))=some ((aGq g:Nat):Int):=by
 have L:Feh (some (en g h)) (0,0)=some ((aGq g:Nat):Int):=by
  unfold Feh;refine kV (λi=>(((aNc g i:Nat):Int),((i:Nat):Int))) 0 60 _ (by decide) (by decide) (λk i _ _=>?_) (λk=>rfl);have h1:=a (i+1);have c:=aKy g i;have b:((i:Int)+1)=((i+1:Nat):Int):=by omega
  simp only [zD];rw [show decide ((i:Int)<60)=true from dT (by omega),zT,wrap_i64 (by omega) (by omega),zC,b,kK (by omega),zC,aCa h1,zC,
   aPe _ _ (by omega) (by omega)]
  rfl
 unfold Fcc;rw [L,zC]
theorem crc_bits (a:Small g) {i:Nat} (hi:i<62) (n:Nat) (b:n<4194304):Fhm (some (en g h)) (i:Int) ((n:Int),11)=some ((jU n (wd g i) 12:Nat):Int):=by
 unfold Fhm;have h1:=a i;refine kV (λj=>(((jU n (wd g i) j:Nat):Int),11-(j:Int))) 0 12 _ (by decide) (by decide) (λk j _ _=>?_) (λk=>?_)
 ·have c:=aLq (n:=n) (w:=wd g i) b j;generalize hq:jU n (wd g i) j=q at *
  have d:(11:Int)-(j:Int)=((11-j:Nat):Int):=by omega
  have e:jS .i64 (q:Int) 1=some ((q*2:Nat):Int):=by
   unfold jS;rw [if_pos (by decide)]
   congr 1
   rw [show(2:Int)^(1:Int).toNat=2 by decide,wrap_i64 (by omega) (by omega)];omega
  have f:bits .and .i64 ((q*2:Nat):Int) 4194303=((q*2%4194304:Nat):Int):=by
   rw [aFi (m:=4194304) 22 (by decide) (by decide) (by omega) (by omega)];omega
  have l:bits .and .u16 ((wd g i/2^(11-j):Nat):Int) 1=((wd g i/2^(11-j)%2:Nat):Int):=by
   have:wd g i/2^(11-j)<=wd g i:=Nat.div_le_self _ _;generalize wd g i/2^(11-j)=z at *
   rw [aEo (m:=2) 1 (by decide) (by decide) (by omega) (by omega)];omega
  simp only [zD];rw [show decide ((0:Int)<=11-(j:Int))=true from dT (by omega),zT,and_top c,e,zC,f,zC,kK (by omega),zC,d,aAp (by show 11-j<=16;omega),zC,l];have o:decide ((if 2097152<=q then(2097152:Int)else 0)≠0)=decide (2097152<=q):=by split<;>simp_all
  have p:decide (((wd g i/2^(11-j)%2:Nat):Int)=1)=decide (wd g i/2^(11-j)%2=1):=vG (by omega);have r:IntKind.i64.wrap (((11-j:Nat):Int)-1)=11-((j+1:Nat):Int):=by rw [wrap_i64 (by omega) (by omega)];omega
  rw [o,p,r]
  cases hb:(!(decide (2097152<=q)==decide (wd g i/2^(11-j)%2=1)))with
  |true=>
   have s:bits .xor .i64 ((q*2%4194304:Nat):Int) 2097167=(((q*2%4194304)^^^2097167:Nat):Int):=aUh (q*2%4194304) 2097167 rfl rfl (by omega) (by decide);rw [zT,zC,s];rw [<-hq]at hb;rw [aUt hb,hq]
  |false=>
   rw [zM,zC];rw [<-hq]at hb;rw [aWg hb,hq]
 ·simp only [zD];rw [show decide ((0:Int)<=11-((12:Nat):Int))=false from by decide,zM]
theorem check_eq (a:Small g):Fd2 (some (en g h))=some ((checkN g:Nat):Int):=by
 have L:Fe0 (some (en g h)) (0,0)=some ((checkN g:Nat):Int):=by
  unfold Fe0;refine kV (λi=>(((aEr g i:Nat):Int),((i:Nat):Int))) 0 62 _ (by decide) (by decide) (λk i _ hi=>?_) (λk=>rfl);simp only [zD];rw [show decide ((i:Int)<62)=true from dT (by omega),zT,crc_bits a hi _ (aTo g i),zC,wrap_i64 (by omega) (by omega)];rfl
 unfold Fd2;rw [L,zC]
end
theorem bAr {k:Nat}(hk:k<4):at' yT.l (k:Int)=some ((wd tab k:Nat):Int):=by
 have: ∀i:Fin 4,at' yT.l (i.val:Int)=some ((wd tab i.val:Nat):Int):=by decide+kernel
 exact this ⟨k,hk⟩
theorem wide_eq {g:List Nat}{h:g.length=64}:Fck (some (en g h))=some (decide (aHs g)):=by
 unfold Fck;rw [yH];unfold Fja
 by_cases a:aHs g
 ·rw [dT a];obtain⟨i0,e,h1⟩:=a
  -- the first one
  have: ∃m,m<64/\4095<wd g m/\ ∀i,i<m-> ¬4095<wd g i:=by
   have c: ∀n,(∀i,i<n-> ¬4095<wd g i)\/ ∃m,m<n/\4095<wd g m/\ ∀i,i<m-> ¬4095<wd g i:=by
    intro n
    induction n with
    |zero=>exact .inl λi hi=>by omega
    |succ n b=>
     rcases b with b|⟨m,_,f,j⟩
     ·by_cases d:4095<wd g n
      ·exact .inr ⟨n,by omega,d,b⟩
      ·exact .inl (upto_succ b d)
     ·exact .inr ⟨m,by omega,f,j⟩
   rcases c 64 with k|k
   ·exact absurd h1 (k i0 e)
   ·exact k
  obtain⟨m,m1,m2,m3⟩:=this;refine kV (λi=>(i:Int)) 0 m _ (by omega) (by omega) (λk i _ hi=>?_) (λk=>?_)
  ·simp only [zD];rw [show decide ((i:Int)<64)=true from dT (by omega),zT,zC,kK (by omega),zC,show decide ((4095:Int)<((wd g i:Nat):Int))=false from qD (by have:=m3 i hi;omega),zM,wrap_i64 (by omega) (by omega)];rfl
  ·simp only [zD];rw [show decide ((m:Int)<64)=true from dT (by omega),zT,zC,kK (by omega),zC,show decide ((4095:Int)<((wd g m:Nat):Int))=true from dT (by omega),zT]
 ·rw [qD a];have l:=notwide h a;refine kV (λi=>(i:Int)) 0 64 _ (by decide) (by decide) (λk i _ hi=>?_) (λk=>rfl);simp only [zD];rw [show decide ((i:Int)<64)=true from dT (by omega),zT,zC,kK (by omega),zC,show decide ((4095:Int)<((wd g i:Nat):Int))=false from qD (by have:=l i;omega),zM,wrap_i64 (by omega) (by omega)];rfl
def aGz (g:List Nat):Prop:= ∀i,i<64->1<=i->pO (wd g i)
instance (g:List Nat):Decidable (aGz g):=by unfold aGz;exact inferInstance
def qI (g:List Nat):Prop:= ¬aHs g/\wd g 0=wd tab (aAh g%4)/\wd g 61%2048=aGq g/\aGz g/\wd g 62%2048*2048+wd g 63%2048=checkN g
instance (g:List Nat):Decidable (qI g):=by unfold qI;exact inferInstance
theorem or_data {a b:Nat} (c:a<2048) (d:b<2048): ∃z,jS .i64 (a:Int) 11=some z/\bits .or .i64 z (b:Int)=((a*2048+b:Nat):Int):=by
 refine⟨((a*2048:Nat):Int),?_,?_⟩;unfold jS;rw [if_pos (by decide)];congr 1;rw [show(2:Int)^(11:Int).toNat=2048 by decide,wrap_i64 (by omega) (by omega)];omega;rw [aJg (m:=2048) 11 (by decide) (by omega) (by omega) (by omega) (by omega) (by omega) (by omega)];omega
section
variable {g:List Nat}{h:g.length=64}
theorem odds_loop (l:Small g) (k:Unit->Option Bool):Ff3 (some (en g h)) k 1=if aGz g then k ()else some false:=by
 unfold Ff3;have o: ∀n,(∀i,1<=i->i<n->pO (wd g i))\/ ∃m,1<=m/\m<n/\ ¬pO (wd g m)/\ ∀i,1<=i->i<m->pO (wd g i):=by
  intro n
  induction n with
  |zero=>exact .inl λi _ hi=>by omega
  |succ n d=>
   rcases d with d|⟨m,f,r,j,p⟩
   ·by_cases s:1<=n
    ·by_cases q:pO (wd g n)
     ·refine .inl λi h1 t=>?_
      by_cases e:i=n
      ·subst e;exact q
      ·exact d i h1 (by omega)
     ·exact .inr ⟨n,s,by omega,q,d⟩
    ·exact .inl λi h1 t=>by omega
   ·exact .inr ⟨m,f,by omega,j,p⟩
 rcases o 64 with hk|⟨m,f,r,j,p⟩
 ·rw [if_pos (show aGz g from λi a b=>hk i b a)];refine kV (λi=>(i:Int)) 1 64 _ (by decide) (by decide) (λk i c hi=>?_) (λk=>rfl);simp only [zD];rw [show decide ((i:Int)<64)=true from dT (by omega),zT,zC,kK (by omega),zC,aKd (l i),zC,dT (hk i c hi),wrap_i64 (by omega) (by omega)];rfl
 ·rw [if_neg (show¬aGz g from λa=>j (a m (by omega) f))];refine kV (λi=>(i:Int)) 1 m _ f (by omega) (λk i c hi=>?_) (λk=>?_)
  ·simp only [zD];rw [show decide ((i:Int)<64)=true from dT (by omega),zT,zC,kK (by omega),zC,aKd (l i),zC,dT (p i c hi),wrap_i64 (by omega) (by omega)];rfl
  ·simp only [zD];rw [show decide ((m:Int)<64)=true from dT (by omega),zT,zC,kK (by omega),zC,aKd (l m),zC,qD j];rfl
theorem sound_eq (c:Small g):Fdf (some (en g h))=some (decide (qI g)):=by
 have d:kW ((aAh g:Nat):Int) 4=some ((aAh g%4:Nat):Int):=nO (b:=4) (by decide);have j:=aYu g;have a0:at' (en g h).l 0=some ((wd g 0:Nat):Int):=kK (i:=0) (by decide);have e:at' (en g h).l 61=some ((wd g 61:Nat):Int):=kK (i:=61) (by decide);have a2:at' (en g h).l 62=some ((wd g 62:Nat):Int):=kK (i:=62) (by decide);have a3:at' (en g h).l 63=some ((wd g 63:Nat):Int):=kK (i:=63) (by decide);obtain⟨_,f,z2⟩:=or_data (a:=wd g 62%2048) (b:=wd g 63%2048) (by omega) (by omega);unfold Fdf;simp only [wide_eq,zC,zD,yH,number_eq c,d,bAr (show aAh g%4<4 by omega),a0,e,a2,a3,aCa (c 61),aCa (c 62),aCa (c 63),sum_eq c,check_eq c,f,z2,odds_loop c];have d1:decide (((wd g 0:Nat):Int)≠((wd tab (aAh g%4):Nat):Int))= !decide (wd g 0=wd tab (aAh g%4)):=by rw [Bool.eq_iff_iff];simp;omega
 have d2:decide (((wd g 61%2048:Nat):Int)≠((aGq g:Nat):Int))= !decide (wd g 61%2048=aGq g):=by rw [Bool.eq_iff_iff];simp;omega
 have d3:decide (((wd g 62%2048*2048+wd g 63%2048:Nat):Int)=((checkN g:Nat):Int))=decide (wd g 62%2048*2048+wd g 63%2048=checkN g):=vG (by omega);rw [d1,d2,d3];by_cases c1:aHs g;rw [dT c1,qD (show¬qI g from λq=>q.1 c1)];rfl;by_cases c2:wd g 0=wd tab (aAh g%4);by_cases c3:wd g 61%2048=aGq g;by_cases c4:aGz g;rw [qD c1,dT c2,dT c3,if_pos c4];show some _=some _;congr 1;exact vG ⟨λq=>⟨c1,c2,c3,c4,q⟩,λq=>q.2.2.2.2⟩;rw [qD c1,dT c2,dT c3,if_neg c4,qD (show¬qI g from λq=>c4 q.2.2.2.1)];rfl;rw [qD c1,dT c2,qD c3,qD (show¬qI g from λq=>c3 q.2.2.1)];rfl;rw [qD c1,qD c2,qD (show¬qI g from λq=>c2 q.2.1)];rfl
end
section
variable {g:List Nat}{h:g.length=64}
theorem Number_eq (a:Small g):Fc9 (en g h)=some ((aKh g).1,(aKh g).2):=by
 have b:at' (en g h).l 1=some ((wd g 1:Nat):Int):=kK (i:=1) (by decide);have a2:at' (en g h).l 2=some ((wd g 2:Nat):Int):=kK (i:=2) (by decide);unfold Fc9 aKh;simp only [b,a2,zC,zD,aKd (a 1),aKd (a 2),number_eq a];by_cases c1:pO (wd g 1);by_cases c2:pO (wd g 2);rw [dT c1,dT c2,if_pos ⟨c1,c2⟩];rfl;rw [dT c1,qD c2,if_neg (λq=>c2 q.2)];rfl;rw [qD c1,if_neg (λq=>c1 q.1)];rfl
end
def flW (g:List Nat):Nat->List kU
 |0=>[]
 |k+1=>if 4095<wd g k then flW g k++[⟨(k:Nat),5⟩]else flW g k
def flO (l:List kU)(g:List Nat):Nat->List kU
 |0=>l
 |k+1=>if pO (wd g (k+1))then flO l g k else flO l g k++[⟨((k+1:Nat):Int),2⟩]
theorem bAh (g:List Nat): ∀k,(flW g k).length<=k
 |0=>by simp [flW]
 |k+1=>by have:=bAh g k;unfold flW;split<;>simp<;>omega
theorem aQg (l:List kU)(g:List Nat): ∀k,(flO l g k).length<=l.length+k
 |0=>by simp [flO]
 |k+1=>by have:=aQg l g k;unfold flO;split<;>simp<;>omega
theorem aPd (g:List Nat): ∀k,flW g k=[]↔ ∀i,i<k-> ¬4095<wd g i
 |0=>by simp [flW]
 |k+1=>by
  have a:=aPd g k;unfold flW;constructor
  ·intro h;split at h
   ·simp at h
   ·rename_i c;exact upto_succ (a.1 h) c
  ·intro h;rw [if_neg (h k (by omega))];exact a.2 λi _=>h i (by omega)
theorem bAf (g:List Nat): ∀k,flO [] g k=[]↔ ∀i,1<=i->i<k+1->pO (wd g i)
 |0=>by simp [flO];omega
 |k+1=>by
  have a:=bAf g k;unfold flO;constructor
  ·intro h;split at h
   ·rename_i c;intro i h1 b
    by_cases e:i=k+1
    ·subst e;exact c
    ·exact a.1 h i h1 (by omega)
   ·simp at h
  ·intro h;rw [if_pos (h (k+1) (by omega) (by omega))];exact a.2 λi h1 b=>h i h1 (by omega)
def flS (g:List Nat):List kU:=if wd g 0=wd tab (aAh g%4)then []else [⟨0,1⟩]
def flP (g:List Nat):List kU:=flO (flS g) g 63
def flT (g:List Nat):List kU:=if wd g 61%2048=aGq g then flP g else flP g++[⟨61,3⟩]
def flC (g:List Nat):List kU:=if wd g 62%2048*2048+wd g 63%2048=checkN g then flT g else flT g++[⟨62,4⟩]
def aQp (g:List Nat):List kU:=if flW g 64=[]then flC g else flW g 64
theorem bAy (g:List Nat):(flS g).length<=1:=by unfold flS;split<;>simp
theorem bAe (g:List Nat):(flP g).length<=64:=by have:=aQg (flS g) g 63;have:=bAy g;unfold flP;omega
theorem flT_len (g:List Nat):(flT g).length<=65:=by have:=bAe g;unfold flT;split<;>simp<;>omega
theorem aXk (g:List Nat):aQp g=[]↔qI g:=by
 have e:flW g 64=[]↔ ¬aHs g:=by
  rw [aPd];exact⟨λh ⟨i,h1,d⟩=>h i h1 d,λh i h1 d=>h ⟨i,h1,d⟩⟩
 have f:flO [] g 63=[]↔aGz g:=by
  rw [bAf];exact⟨λh i a b=>h i b a,λh i a b=>h i b a⟩
 have j: ∀(l:List kU) k,flO l g k=[]->l=[]:=by
  intro l k
  induction k with
  |zero=>exact id
  |succ k m=>
   intro h;unfold flO at h;split at h
   ·exact m h
   ·simp at h
 unfold aQp;constructor
 ·intro h;split at h
  ·rename_i c;unfold flC at h;split at h
   ·rename_i c5;unfold flT at h;split at h
    ·rename_i c3;unfold flP at h;have h1:=j _ _ h;unfold flS at h1;split at h1
     ·rename_i c2;unfold flS at h;rw [if_pos c2]at h;exact⟨e.1 c,c2,c3,f.1 h,c5⟩
     ·simp at h1
    ·simp at h
   ·simp at h
  ·rename_i c;exact absurd h c
 ·rintro⟨c1,c2,c3,c4,c5⟩;rw [if_pos (e.2 c1)];unfold flC flT flP flS;rw [if_pos c5,if_pos c3,if_pos c2];exact f.2 c4
theorem aUg {l:List kU}(x:kU)(h:l.length<=200):app' 16 l [x]=some (l++[x]):=by
 unfold app';rw [if_pos];rw [maxLen_eq];simp;omega
theorem rflaws_L1 {g:List Nat}{h:g.length=64}:Ffc (en g h) ([],0)=some (flW g 64):=by
 unfold Ffc;refine kV (λi=>(flW g i,(i:Int))) 0 64 _ (by decide) (by decide) (λk i _ _=>?_) (λk=>rfl);have:=bAh g i;simp only [zD];rw [show decide ((i:Int)<64)=true from dT (by omega),zT,kK (by omega),zC,aUg _ (by omega),wrap_i64 (by omega) (by omega)];by_cases c:4095<wd g i;rw [show decide ((4095:Int)<((wd g i:Nat):Int))=true from dT (by omega),zT,zC,zC,show flW g (i+1)=flW g i++[⟨(i:Nat),5⟩]from if_pos c];rfl;rw [show decide ((4095:Int)<((wd g i:Nat):Int))=false from qD (by omega),zM,zC,show flW g (i+1)=flW g i from if_neg c];rfl
theorem rsync_eq {n:Nat}:Ffx (n:Int)=some ((wd tab (n%4):Nat):Int):=by
 have a:kW (n:Int) 4=some ((n%4:Nat):Int):=nO (b:=4) (by decide);unfold Ffx;rw [a,zC];have:=bAr (k:=n%4) (by omega);rw [show(⟨[583,1464,2631,3512],rfl⟩:Arr 4 Int)=yT from rfl,this,zC]
theorem bAc {n:Nat} (l:n<65536):Fda (n:Int)=some (decide (aHx n)):=by
 have o:Fe4 ((n:Int),0)=some ((pop n:Nat):Int):=by
  have i: ∀(B:(Int×Int->Option Int)->Int×Int->Option Int),(∀k (a b:Int),B k (a,b)=gJ (decide (0<a)) (gB (kW a 2) λx=>gB (pX .i64 a 2) λy=>k (y,IntKind.i64.wrap (b+x))) (some b))->
    ∀(f m c d:Nat),m<2^f->f<=16->c+f<=16->f<d->kC B d ((m:Int),(c:Int))=some (((c+wG f m:Nat):Int)):=by
   intro B j f
   induction f with
   |zero=>
    intro m c d h1 _ _ p;obtain⟨d,rfl⟩: ∃k,d=k+1:=⟨d-1,by omega⟩;have:m=0:=by omega
    subst this;rw [kC,j];rfl
   |succ f q=>
    intro m c d h1 r _ p;obtain⟨d,rfl⟩: ∃k,d=k+1:=⟨d-1,by omega⟩;rw [kC,j]
    by_cases s:m=0
    ·subst s;rw [aNt];rfl
    ·have t:kW (m:Int) 2=some ((m%2:Nat):Int):=nO (b:=2) (by decide);have hm:m<65536:=Nat.lt_of_lt_of_le h1 (Nat.pow_le_pow_right (n:=2) (by decide) r);have u:pX .i64 (m:Int) 2=some ((m/2:Nat):Int):=aZx (b:=2) (by decide) (by omega);rw [show decide (0<(m:Int))=true from dT (by omega),zT,t,zC,u,zC,wrap_i64 (by omega) (by omega),show((c:Int)+((m%2:Nat):Int))=((c+m%2:Nat):Int)by omega];rw [q (m/2) (c+m%2) d (by rw [Nat.pow_succ]at h1;omega) (by omega) (by omega) (by omega),wG]
     congr 2;omega
  have e: ∀B:(Int×Int->Option Int)->Int×Int->Option Int,gZ B ((n:Int),0)=kC B FU ((n:Int),((0:Nat):Int)):=λB=>rfl
  unfold Fe4;rw [e,i _ (λk a b=>rfl) 16 n 0 FU l (by decide) (by decide) (by unfold FU;omega),Nat.zero_add];rfl
 unfold Fda;rw [o,zC];have e:kW ((pop n:Nat):Int) 2=some ((pop n%2:Nat):Int):=nO (b:=2) (by decide);rw [e,zC,zD];refine congrArg some (vG ?_);unfold aHx;generalize pop n%2=z;omega
section
variable {g:List Nat}{h:g.length=64}
theorem rsum_eq (a:Small g):Fe8 (en g h)=some ((aGq g:Nat):Int):=by
 have L:Fer (en g h) (0,1)=some ((aGq g:Nat):Int):=by
  unfold Fer;refine kV (λi=>(((aNc g i:Nat):Int),((i+1:Nat):Int))) 0 60 _ (by decide) (by decide) (λk i _ _=>?_) (λk=>rfl);have h1:=a (i+1);have c:=aKy g i;have e:kW ((wd g (i+1):Nat):Int) 2048=some ((wd g (i+1)%2048:Nat):Int):=nO (b:=2048) (by decide);simp only [zD];rw [show decide (((i+1:Nat):Int)<=60)=true from dT (by omega),zT,kK (by omega),zC,wrap_i64 (by omega) (by omega),e,zC,
   aPe _ _ (by omega) (by omega),wrap_i64 (by omega) (by omega)]
  rfl
 unfold Fe8;rw [L,zC]
theorem rcheck_eq (p:Small g):Fe6 (en g h)=some ((checkN g:Nat):Int):=by
 have L:Fgx (en g h) (0,0)=some ((checkN g:Nat):Int):=by
  unfold Fgx;rw [<-ref_check (f:=g) (k:=766) rfl];refine kV (λi=>(((mM g i:Nat):Int),((i:Nat):Int))) 0 766 _ (by decide) (by decide) (λk i _ _=>?_) (λk=>rfl);have u:=aFl g i;have q:=aOu g i;have v:=p (i/12);simp only [zD];rw [show decide ((i:Int)<766)=true from dT (by omega),zT];have a:(gJ (decide ((i:Int)<744)) (gB (pX .i64 (i:Int) 12) λd=>gB (at' (en g h).l d) λe=>gB (kW (i:Int) 12) λj=>gB (aAe .i64 (IntKind.i64.wrap e) (IntKind.i64.wrap (11-j))) λo=>some (bits .and .i64 o 1)) (some 0))=some ((wC g i:Nat):Int):=by
   unfold wC
   by_cases c:i<744
   ·rw [show decide ((i:Int)<744)=true from dT (by omega),zT,if_pos c];have r:pX .i64 (i:Int) 12=some ((i/12:Nat):Int):=aZx (b:=12) (by decide) (by omega);have s:kW (i:Int) 12=some ((i%12:Nat):Int):=nO (b:=12) (by decide);rw [r,zC,kK (by omega),zC,s,zC,wrap_i64 (by omega) (by omega),wrap_i64 (by omega) (by omega),show(11:Int)-((i%12:Nat):Int)=((11-i%12:Nat):Int)by omega,
     aAp (b:=11-i%12) (by show 11-i%12<=64;omega),zC]
    have:wd g (i/12)/2^(11-i%12)<=wd g (i/12):=Nat.div_le_self _ _;generalize wd g (i/12)/2^(11-i%12)=z at *
    rw [aFi (m:=2) 1 (by decide) (by decide) (by omega) (by omega)]
    congr 1
   ·rw [show decide ((i:Int)<744)=false from qD (by omega),zM,if_neg c];rfl
  rw [a,zC,wrap_i64 (n:=((mM g i:Nat):Int)*2) (by omega) (by omega),wrap_i64 (n:=((mM g i:Nat):Int)*2+((wC g i:Nat):Int)) (by omega) (by omega),wrap_i64 (n:=(i:Int)+1) (by omega) (by omega)];show gB _ _=k (((sZ (mM g i) (wC g i):Nat):Int),_);rw [show((mM g i:Nat):Int)*2+((wC g i:Nat):Int)=((mM g i*2+wC g i:Nat):Int)by omega];unfold sZ
  by_cases c:4194304<=mM g i*2+wC g i
  ·rw [show decide ((4194304:Int)<=((mM g i*2+wC g i:Nat):Int))=true from dT (by omega),zT,zC];have t:bits .xor .i64 ((mM g i*2+wC g i:Nat):Int) 6291471=(((mM g i*2+wC g i)^^^6291471:Nat):Int):=aUh (mM g i*2+wC g i) 6291471 rfl rfl (by omega) (by decide);rw [t,if_pos c];rfl
  ·rw [show decide ((4194304:Int)<=((mM g i*2+wC g i:Nat):Int))=false from qD (by omega),zM,zC,if_neg c];rfl
 unfold Fe6;rw [L,zC]
theorem aJy (a:Small g):Fco (en g h)=some ((aAh g:Nat):Int):=by
 have h1:=a 1;have j:=a 2;have c:at' (en g h).l 1=some ((wd g 1:Nat):Int):=kK (i:=1) (by decide);have a2:at' (en g h).l 2=some ((wd g 2:Nat):Int):=kK (i:=2) (by decide);have d:kW ((wd g 1:Nat):Int) 2048=some ((wd g 1%2048:Nat):Int):=nO (b:=2048) (by decide);have e:kW ((wd g 2:Nat):Int) 2048=some ((wd g 2%2048:Nat):Int):=nO (b:=2048) (by decide);unfold Fco;simp only [zD];have f:IntKind.i64.wrap (((wd g 2%2048:Nat):Int)*2048)=((wd g 2%2048*2048:Nat):Int):=by rw [wrap_i64 (by omega) (by omega)];omega
 rw [c,zC,wrap_i64 (by omega) (by omega),d,zC,a2,zC,wrap_i64 (by omega) (by omega),e,zC,f,wrap_i64 (by omega) (by omega)];unfold aAh;congr 1
theorem rflaws_L2 (a:Small g) {l:List kU} (e:l.length<=1) (b:flW g 64=[]):Fey (en g h) (l,1)=some (flO l g 63):=by
 unfold Fey;refine(kV (λi=>(flO l g i,((i+1:Nat):Int))) 0 63 (some (flO l g 63)) (by decide) (by decide) (λk i _ _=>?_) (λk=>rfl));have:=aQg l g i;have h1:=a (i+1);have f:=(aPd g 64).1 b (i+1) (by omega);simp only [zD];rw [show decide (((i+1:Nat):Int)<64)=true from dT (by omega),zT,kK (by omega),zC,wrap_i64 (by omega) (by omega),bAc (a _),zC,aUg _ (by omega),wrap_i64 (by omega) (by omega)];by_cases c:pO (wd g (i+1));rw [dT c.2,show flO l g (i+1)=flO l g i from if_pos c];rfl;have d: ¬aHx (wd g (i+1)):=λq=>c ⟨by omega,q⟩;rw [qD d,show flO l g (i+1)=flO l g i++[⟨((i+1:Nat):Int),2⟩]from if_neg c];rfl
theorem rFlaws_eq (a:Small g):Fek (en g h)=some (aQp g):=by
 have q:=aYu g;have r:=a 0;have k:=a 61;have m:=a 62;have n:=a 63;have a0:at' (en g h).l 0=some ((wd g 0:Nat):Int):=kK (i:=0) (by decide);have o:at' (en g h).l 61=some ((wd g 61:Nat):Int):=kK (i:=61) (by decide);have a2:at' (en g h).l 62=some ((wd g 62:Nat):Int):=kK (i:=62) (by decide);have a3:at' (en g h).l 63=some ((wd g 63:Nat):Int):=kK (i:=63) (by decide);have d:kW ((wd g 61:Nat):Int) 2048=some ((wd g 61%2048:Nat):Int):=nO (b:=2048) (by decide);have e:kW ((wd g 62:Nat):Int) 2048=some ((wd g 62%2048:Nat):Int):=nO (b:=2048) (by decide);have f:kW ((wd g 63:Nat):Int) 2048=some ((wd g 63%2048:Nat):Int):=nO (b:=2048) (by decide);have d1:decide (((wd g 0:Nat):Int)≠((wd tab (aAh g%4):Nat):Int))= !decide (wd g 0=wd tab (aAh g%4)):=by rw [Bool.eq_iff_iff];simp;omega
 have d2:decide (((wd g 61%2048:Nat):Int)≠((aGq g:Nat):Int))= !decide (wd g 61%2048=aGq g):=by rw [Bool.eq_iff_iff];simp;omega
 have d3:decide ((((wd g 62%2048:Nat):Int)*2048+((wd g 63%2048:Nat):Int))≠((checkN g:Nat):Int))= !decide (wd g 62%2048*2048+wd g 63%2048=checkN g):=by rw [Bool.eq_iff_iff];simp;omega
 unfold Fek aQp;rw [rflaws_L1,zC,zD,zD]
 by_cases c:flW g 64=[]
 ·rw [if_pos c,c];rw [show decide (0<(([]:List kU).length:Int))=false from rfl,zM,a0,zC];simp only [zD];rw [wrap_i64 (by omega) (by omega),aJy a,zC,rsync_eq,zC,d1];have p:(gJ (!decide (wd g 0=wd tab (aAh g%4))) (gB (app' 16 [] [(⟨0,1⟩:kU)]) λx=>some x) (some []))=some (flS g):=by
   rw [aUg _ (by simp)];unfold flS
   by_cases c2:wd g 0=wd tab (aAh g%4)
   ·rw [dT c2,if_pos c2];rfl
   ·rw [qD c2,if_neg c2];rfl
  rw [p,zC,rflaws_L2 a (bAy g) c,zC,o,zC,wrap_i64 (by omega) (by omega),d,zC,rsum_eq a,zC,d2];have j:(gJ (!decide (wd g 61%2048=aGq g)) (gB (app' 16 (flP g) [(⟨61,3⟩:kU)]) λx=>some x) (some (flP g)))=some (flT g):=by
   have:=bAe g;rw [aUg _ (by omega)];unfold flT
   by_cases c2:wd g 61%2048=aGq g
   ·rw [dT c2,if_pos c2];rfl
   ·rw [qD c2,if_neg c2];rfl
  unfold flP at j;rw [j,zC,a2,zC,wrap_i64 (by omega) (by omega),e,zC,a3,zC,wrap_i64 (by omega) (by omega),wrap_i64 (by omega) (by omega),f,zC,wrap_i64 (by omega) (by omega),rcheck_eq a,zC,d3];have:=flT_len g;rw [aUg _ (by omega)];unfold flC
  by_cases c2:wd g 62%2048*2048+wd g 63%2048=checkN g
  ·rw [dT c2,if_pos c2];rfl
  ·rw [qD c2,if_neg c2];rfl
 ·rw [if_neg c,show decide (0<((flW g 64).length:Int))=true from dT (by have:=List.length_pos_iff.2 c;omega),zT]
theorem rSound_eq (a:Small g):Fhp (en g h)=some (decide (qI g)):=by
 unfold Fhp;rw [rFlaws_eq a,zC];simp only [zD];congr 1;refine vG ?_;rw [<-aXk];constructor;intro h;exact List.eq_nil_of_length_eq_zero (by omega);intro h;rw [h];rfl
end
theorem aSl {n:Nat}(a:n<65536):Fcx (n:Int)=some (decide (pO n)):=by
 unfold Fcx;simp only [zD];rw [wrap_i64 (by omega) (by omega),bAc a,zC];have b:decide ((n:Int)<=4095)=decide (n<=4095):=vG (by omega);have c:decide (pO n)=(decide (n<=4095)&&decide (aHx n)):=by
  rw [Bool.eq_iff_iff,Bool.and_eq_true,decide_eq_true_eq,decide_eq_true_eq,decide_eq_true_eq];exact Iff.rfl
 rw [b,c];generalize decide (aHx n)=z
 cases decide (n<=4095)<;>rfl
section
variable {g:List Nat}{h:g.length=64}
theorem aVo (a:Small g):Ffl (en g h)=some ((aKh g).1,(aKh g).2):=by
 have b:at' (en g h).l 1=some ((wd g 1:Nat):Int):=kK (i:=1) (by decide);have a2:at' (en g h).l 2=some ((wd g 2:Nat):Int):=kK (i:=2) (by decide);unfold Ffl aKh;simp only [b,a2,zC,zD,aSl (a 1),aSl (a 2),aJy a];by_cases c1:pO (wd g 1);by_cases c2:pO (wd g 2);rw [dT c1,dT c2,if_pos ⟨c1,c2⟩];rfl;rw [dT c1,qD c2,if_neg (λq=>c2 q.2)];rfl;rw [qD c1,if_neg (λq=>c1 q.1)];rfl
end
end Go.Lf
