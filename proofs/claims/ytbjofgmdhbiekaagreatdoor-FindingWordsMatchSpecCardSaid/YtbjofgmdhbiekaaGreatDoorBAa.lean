/- Laws that the claim stands on; no condition beyond those stated. -/
import Derived.Test.YtbjofgmdhbiekaaGreatDoorUP
import Derived.Test.YtbjofgmdhbiekaaGreatDoorPLb
namespace Go.Fr1

def aAg:Nat->Nat->Nat
 |0,_=>0
 |f+1,n=>n%2+aAg f (n/2)
def pop (n:Nat):Nat:=aAg 16 n
def aIk (n:Nat):Prop:=pop n%2=1
instance (n:Nat):Decidable (aIk n):=by unfold aIk;exact inferInstance

theorem aIp: ∀(f n:Nat),aAg f n<=f
 |0,_=>Nat.le_refl _
 |f+1,n=>by have:=aIp f (n/2);have:=Nat.mod_lt n (show 0<2 by decide);unfold aAg;omega
theorem aKm: ∀(a b n:Nat),aAg (a+b) n=aAg a (n%2^a)+aAg b (n/2^a)
 |0,b,n=>by simp [aAg]
 |a+1,b,n=>by
  have c:=aKm a b (n/2);rw [show a+1+b=(a+b)+1 by omega,aAg,aAg,c];have d:n/2%2^a=n%2^(a+1)/2:=by
   rw [Nat.pow_succ,Nat.mul_comm,Nat.mod_mul_right_div_self]
  have e:n/2/2^a=n/2^(a+1):=by
   rw [Nat.div_div_eq_div_mul,Nat.pow_succ,Nat.mul_comm]
  have f:n%2^(a+1)%2=n%2:=Nat.mod_mod_of_dvd _ ⟨2^a,by rw [Nat.pow_succ,Nat.mul_comm]⟩;rw [d,e,f];omega
theorem aMz: ∀f,aAg f 0=0
 |0=>rfl
 |f+1=>by simp [aAg,aMz f]

theorem pop_eq {n:Nat}:aAg 8 (n/256)+aAg 8 (n%256)=pop n:=by
 have:=aKm 8 8 n;unfold pop;simp at this;omega

def wd (f:List Nat)(i:Nat):Nat:=f.getD i 0
def Small (f:List Nat):Prop:= ∀i,wd f i<65536
def aBg (f:List Nat):Nat:=wd f 1%2048+wd f 2%2048*2048
def aNb (f:List Nat):Nat->Nat
 |0=>0
 |k+1=>aNb f k^^^(wd f (k+1)%2048)
def aHa (f:List Nat):Nat:=aNb f 60
theorem aJo (f:List Nat): ∀k,aNb f k<2048
 |0=>by simp [aNb]
 |k+1=>by
  have h1:=aJo f k;have a:wd f (k+1)%2048<2048:=Nat.mod_lt _ (by decide);exact Nat.xor_lt_two_pow (n:=11) h1 a
def qU (n b:Nat):Nat:=if decide (2097152<=n)==decide (b=1)then n*2%4194304 else(n*2%4194304)^^^2097167
def jY (n w:Nat):Nat->Nat
 |0=>n
 |j+1=>qU (jY n w j) (w/2^(11-j)%2)
def aEw (f:List Nat):Nat->Nat
 |0=>0
 |k+1=>jY (aEw f k) (wd f k) 12
def checkN (f:List Nat):Nat:=aEw f 62
theorem aXj (n b:Nat):qU n b<4194304:=by
 unfold qU;have h:n*2%4194304<4194304:=Nat.mod_lt _ (by decide);split;exact h;exact Nat.xor_lt_two_pow (n:=22) h (by decide)
theorem aJy {n w:Nat}(h:n<4194304): ∀j,jY n w j<4194304
 |0=>h
 |_+1=>aXj _ _
theorem aTt (f:List Nat): ∀k,aEw f k<4194304
 |0=>by simp [aEw]
 |k+1=>aJy (aTt f k) 12
theorem aXo {n b:Nat}(h:(!(decide (2097152<=n)==decide (b=1)))=false):qU n b=n*2%4194304:=by
 unfold qU;rw [if_pos (by simpa using h)]
theorem aWw {n b:Nat}(h:(!(decide (2097152<=n)==decide (b=1)))=true):qU n b=(n*2%4194304)^^^2097167:=by
 unfold qU;rw [if_neg (by simpa using h)]
theorem aWh {n w j:Nat}(h:(!(decide (2097152<=jY n w j)==decide (w/2^(11-j)%2=1)))=false):jY n w (j+1)=jY n w j*2%4194304:=aXo h
theorem aUo {n w j:Nat}(h:(!(decide (2097152<=jY n w j)==decide (w/2^(11-j)%2=1)))=true):jY n w (j+1)=(jY n w j*2%4194304)^^^2097167:=aWw h
def aIa (f:List Nat):Prop:= ∃i,i<64/\4095<wd f i
instance (f:List Nat):Decidable (aIa f):=by unfold aIa;exact inferInstance
theorem upto_succ {P:Nat->Prop}{k:Nat}(h: ∀i,i<k->P i)(hk:P k): ∀i,i<k+1->P i:=λi hi=>by
 rcases Nat.lt_succ_iff_lt_or_eq.1 hi with h1|h1
 ·exact h i h1
 ·subst h1;exact hk
def tab:List Nat:=[583,1464,2631,3512]
theorem aYm (f:List Nat):aBg f<4194304:=by unfold aBg;omega
def okD (x:Int):Prop:=0<=x/\x<=2047
instance (x:Int):Decidable (okD x):=by unfold okD;exact inferInstance
def okAll (d:List Int):Prop:= ∀i,i<58->okD (d.getD i 0)
instance (d:List Int):Decidable (okAll d):=decidable_of_iff (¬ ∃i,i<58/\ ¬okD (d.getD i 0)) ⟨λh i hi=>Decidable.byContradiction λhn=>h ⟨i,hi,hn⟩,λh ⟨i,hi,hn⟩=>hn (h i hi)⟩
def qH (n:Nat):Prop:=n<=4095/\aIk n
instance (n:Nat):Decidable (qH n):=by unfold qH;exact inferInstance
theorem notwide {f:List Nat} (b:f.length=64) (h: ¬aIa f) (i:Nat):wd f i<4096:=by
 by_cases hi:i<64;have q: ¬4095<wd f i:=λa=>h ⟨i,hi,a⟩;omega;unfold wd;rw [List.getD_eq_getElem?_getD,List.getElem?_eq_none (by omega)];simp
def zst (n:Nat):Nat:=(n*2%4194304)^^^(if 2097152<=n then 2097167 else 0)
theorem two_xor (x y:Nat):(x^^^y)*2=(x*2)^^^(y*2):=by
 have h:=Nat.shiftLeft_xor_distrib (a:=x) (b:=y) (i:=1);simpa [Nat.shiftLeft_eq]using h
theorem aXa {n:Nat}(_:n<4194304):n*2%4194304=n%2097152*2:=by omega
theorem aXc {n:Nat}:zst n<4194304:=by
 unfold zst;refine Nat.xor_lt_two_pow (n:=22) (Nat.mod_lt _ (by decide)) ?_;split<;>decide
theorem zst_xor {x y:Nat}(k:x<4194304)(l:y<4194304):zst (x^^^y)=zst x^^^zst y:=by
 have j:x^^^y<4194304:=Nat.xor_lt_two_pow (n:=22) k l;have h1:(x^^^y)%2097152=x%2097152^^^y%2097152:=Nat.xor_mod_two_pow (n:=21);have e:(x^^^y)/2097152=x/2097152^^^y/2097152:=Nat.xor_div_two_pow (n:=21);unfold zst;rw [aXa k,aXa l,aXa j,h1,two_xor];generalize x%2097152*2=p;generalize y%2097152*2=q;have f:x/2097152=0\/x/2097152=1:=by omega
 have i:y/2097152=0\/y/2097152=1:=by omega
 have m: ∀a b c d:Nat,(a^^^b)^^^(c^^^d)=(a^^^c)^^^(b^^^d):=by
  intro a b c d;rw [Nat.xor_assoc,Nat.xor_assoc,<-Nat.xor_assoc b,Nat.xor_comm b c,Nat.xor_assoc c]
 rcases f with f|f<;>rcases i with i|i<;>rw [f,i]at e
 ·rw [if_neg (by simp at e;omega),if_neg (by omega),if_neg (by omega),Nat.xor_zero,Nat.xor_zero,Nat.xor_zero]
 ·rw [if_pos (by simp at e;omega),if_neg (by omega),if_pos (by omega),Nat.xor_zero,Nat.xor_assoc]
 ·rw [if_pos (by simp at e;omega),if_pos (by omega),if_neg (by omega),Nat.xor_zero,Nat.xor_assoc,Nat.xor_assoc,Nat.xor_comm q]
 ·rw [if_neg (by simp at e;omega),if_pos (by omega),if_pos (by omega),Nat.xor_zero,m,Nat.xor_self,Nat.xor_zero]
def zs:Nat->Nat->Nat
 |0,n=>n
 |k+1,n=>zst (zs k n)
theorem zs_lt {n:Nat}(h:n<4194304): ∀k,zs k n<4194304
 |0=>h
 |_+1=>aXc
theorem zs_xor {x y:Nat}(a:x<4194304)(b:y<4194304): ∀k,zs k (x^^^y)=zs k x^^^zs k y
 |0=>rfl
 |k+1=>by unfold zs;rw [zs_xor a b k,zst_xor (zs_lt a k) (zs_lt b k)]
theorem bAb (n:Nat): ∀k,zs k (zst n)=zst (zs k n)
 |0=>rfl
 |k+1=>by unfold zs;rw [bAb n k]
theorem zs_one:zs 22 1=2097167:=by decide+kernel
theorem aQr: ∀k,zs k 0=0
 |0=>rfl
 |k+1=>by unfold zs;rw [aQr k];rfl
def uD (n b:Nat):Nat:=if 4194304<=n*2+b then(n*2+b)^^^6291471 else n*2+b
theorem aXy {n b:Nat} (a:b<2):n*2+b=(n*2)^^^b:=by
 have:b=0\/b=1:=by omega
 rcases this with rfl|rfl
 ·simp
 ·apply Nat.eq_of_testBit_eq;intro i;rcases i with _|i
  ·simp [Nat.testBit_zero,Nat.xor_mod_two_eq_one]
  ·rw [Nat.testBit_xor];simp only [Nat.testBit_succ];rw [show(n*2+1)/2=n by omega,show n*2/2=n by omega];simp
theorem aEn {n b:Nat} (l:n<4194304) (a:b<2):uD n b=zst n^^^b:=by
 have h1:n*2+b<8388608:=by omega
 unfold uD zst
 by_cases h:2097152<=n
 ·rw [if_pos (by omega),if_pos h,aXy a,show n*2%4194304=n*2-4194304 by omega];have e:n*2=(n*2-4194304)^^^4194304:=by
   have c:(n*2-4194304)<2^22:=by omega
   have o:n*2=2^22*1+(n*2-4194304):=by omega
   rw [Nat.xor_comm];have d:=Nat.two_pow_add_eq_or_of_lt c 1;have f:(2^22*1)&&& (n*2-4194304)=0:=by
    apply Nat.eq_of_testBit_eq;intro i;rw [Nat.testBit_and,Nat.mul_one,Nat.testBit_two_pow]
    by_cases hi:22=i
    ·subst hi;simp [Nat.testBit_lt_two_pow c]
    ·simp [hi]
   have j:(2^22*1)|||(n*2-4194304)=(2^22*1)^^^(n*2-4194304):=by
    apply Nat.eq_of_testBit_eq;intro i;have:=congrArg (λq=>q.testBit i) f;simp only [Nat.testBit_and,Nat.zero_testBit]at this;rw [Nat.testBit_or,Nat.testBit_xor]
    revert this
    generalize (2^22*1).testBit i=p;generalize (n*2-4194304).testBit i=q
    cases p<;>cases q<;>decide
   rw [j]at d;have r:4194304^^^(n*2-4194304)=4194304+(n*2-4194304):=d.symm;omega
  have k:(6291471:Nat)=4194304^^^2097167:=by decide
  rw [k];generalize hm:n*2-4194304=m at e⊢;rw [e];rw [Nat.xor_assoc m,Nat.xor_comm 4194304 b,<-Nat.xor_assoc m,Nat.xor_assoc (m^^^b),<-Nat.xor_assoc 4194304,Nat.xor_self,Nat.zero_xor,Nat.xor_assoc,Nat.xor_comm b,<-Nat.xor_assoc]
 ·rw [if_neg (by omega),if_neg h,aXy a,Nat.xor_zero,show n*2%4194304=n*2 by omega]
theorem aUt {n b:Nat}(a:n<4194304)(c:b<2):uD n b<4194304:=by
 rw [aEn a c];exact Nat.xor_lt_two_pow (n:=22) aXc (by omega)
theorem aSy {n b:Nat}(_:n<4194304)(c:b<2):qU n b=zst n^^^(if b=1 then 2097167 else 0):=by
 unfold qU zst;have:b=0\/b=1:=by omega
 by_cases h:2097152<=n<;>rcases this with rfl|rfl<;>simp [h,Nat.xor_assoc]
theorem step_22 {r b:Nat}(a:r<4194304)(c:b<2):zs 22 (uD r b)=qU (zs 22 r) b:=by
 rw [aEn a c,zs_xor aXc (by omega),bAb,aSy (zs_lt a 22) c];have:b=0\/b=1:=by omega
 rcases this with rfl|rfl
 ·rw [aQr];simp
 ·rw [zs_one];simp
def wS (f:List Nat)(i:Nat):Nat:=if i<744 then wd f (i/12)/2^(11-i%12)%2 else 0
def nI (f:List Nat):Nat->Nat
 |0=>0
 |i+1=>uD (nI f i) (wS f i)
theorem aPr (f:List Nat)(i:Nat):wS f i<2:=by unfold wS;split<;>omega
theorem aGi (f:List Nat): ∀i,nI f i<4194304
 |0=>by show 0<4194304;decide
 |i+1=>aUt (aGi f i) (aPr f i)
theorem aRr (f:List Nat)(k:Nat)(hk:k<62)(h:zs 22 (nI f (12*k))=aEw f k): ∀j,j<=12->zs 22 (nI f (12*k+j))=jY (aEw f k) (wd f k) j
 |0,_=>h
 |j+1,b=>by
  have a:=aRr f k hk h j (by omega);show zs 22 (uD (nI f (12*k+j)) (wS f (12*k+j)))=qU (jY (aEw f k) (wd f k) j) (wd f k/2^(11-j)%2);rw [step_22 (aGi f _) (aPr f _),a]
  congr 1
  unfold wS;rw [if_pos (by omega),show(12*k+j)/12=k by omega,show(12*k+j)%12=j by omega]
theorem aYg (f:List Nat): ∀k,k<=62->zs 22 (nI f (12*k))=aEw f k
 |0,_=>aQr 22
 |k+1,hk=>aRr f k (by omega) (aYg f k (by omega)) 12 (Nat.le_refl _)
theorem aSt (f:List Nat): ∀j,nI f (744+j)=zs j (nI f 744)
 |0=>rfl
 |j+1=>by
  have a:=aSt f j;show uD (nI f (744+j)) (wS f (744+j))=zst (zs j (nI f 744));have b:wS f (744+j)=0:=by unfold wS;rw [if_neg (by omega)]
  rw [b,aEn (aGi f _) (by decide),Nat.xor_zero,a]
theorem ref_check {f:List Nat}{k:Nat}(hk:k=766):nI f k=checkN f:=by
 subst hk;rw [show 766=744+22 from rfl,aSt f 22,show 744=12*62 from rfl,aYg f 62 (Nat.le_refl _)];rfl
def aLt (f:List Nat):Int×Bool:=if qH (wd f 1)/\qH (wd f 2)then((aBg f:Nat),true)else(0,false)
end Go.Fr1
namespace Go.Lf
open Go.RowKit Go.OB Go.Fr1
def en (g:List Nat)(h:g.length=64):Arr 64 Int:=⟨g.map λn:Nat=>(n:Int),by rw [List.length_map];exact h⟩
theorem jB {c d:Type}{body:(c->Option d)->c->Option d}(E:Nat->c)(a n:Nat)(r:Option d)(j:a<=n)(s:n<=9223372036854775807)
  (l: ∀k i,a<=i->i<n->body k (E i)=k (E (i+1)))(o: ∀k,body k (E n)=r):fA body (E a)=r:=by
 have e: ∀m b i,i+m=n->a<=i->m<b->jC body b (E i)=r:=by
  intro m
  induction m with
  |zero=>
   intro b i h1 f p;obtain⟨b,rfl⟩: ∃k,b=k+1:=⟨b-1,by omega⟩;have:i=n:=by omega
   subst this;exact o _
  |succ m q=>
   intro b i h1 f p;obtain⟨b,rfl⟩: ∃k,b=k+1:=⟨b-1,by omega⟩;show body (jC body b) (E i)=r;rw [l _ i f (by omega)];exact q b (i+1) (by omega) (by omega) (by omega)
 exact e (n-a) FU a (by omega) (Nat.le_refl _) (aPb (by omega))
theorem kV {g:List Nat}{h:g.length=64}{i:Nat}(hi:i<64):at' (en g h).l (i:Int)=some ((wd g i:Nat):Int):=by
 rw [aGx];have:i<g.length:=by omega
 simp [en,wd,List.getD_eq_getElem?_getD,this]
theorem vZ {p q:Prop} [Decidable p] [Decidable q] (h:p↔q):decide p=decide q:=decide_eq_decide.2 h
theorem aBd {k:IntKind}{a b:Nat}(c:b<=k.bits):aAo k (a:Int) (b:Int)=some ((a/2^b:Nat):Int):=by
 unfold aAo;rw [if_pos ⟨by omega,by omega⟩];simp
theorem pO {a b:Nat}(c:b≠0):jF (a:Int) (b:Int)=some ((a%b:Nat):Int):=by
 unfold jF;rw [if_neg (by omega),Int.tmod_eq_emod_of_nonneg (by omega)];simp
theorem aZg {a b:Nat}(c:b≠0)(d:a<4611686018427387904):qR .i64 (a:Int) (b:Int)=some ((a/b:Nat):Int):=by
 unfold qR;have h1:a/b<=a:=Nat.div_le_self _ _;have e:(a:Int)/(b:Int)=((a/b:Nat):Int):=by simp
 rw [if_neg (by omega),Int.tdiv_eq_ediv_of_nonneg (by omega),e];generalize a/b=q at *;rw [wrap_i64 (by omega) (by omega)]
theorem cnt_tab: ∀i:Fin 256,byte' [0,1,1,2,1,2,2,3,1,2,2,3,2,3,3,4,1,2,2,3,2,3,3,4,2,3,3,4,3,4,4,5,1,2,2,3,2,3,3,4,2,3,3,4,3,4,4,5,2,3,3,4,3,4,4,5,3,4,4,5,4,5,5,6,1,2,2,3,2,3,3,4,2,3,3,4,3,4,4,5,2,3,3,4,3,4,4,5,3,4,4,5,4,5,5,6,2,3,3,4,3,4,4,5,3,4,4,5,4,5,5,6,3,4,4,5,4,5,5,6,4,5,5,6,5,6,6,7,1,2,2,3,2,3,3,4,2,3,3,4,3,4,4,5,2,3,3,4,3,4,4,5,3,4,4,5,4,5,5,6,2,3,3,4,3,4,4,5,3,4,4,5,4,5,5,6,3,4,4,5,4,5,5,6,4,5,5,6,5,6,6,7,2,3,3,4,3,4,4,5,3,4,4,5,4,5,5,6,3,4,4,5,4,5,5,6,4,5,5,6,5,6,6,7,3,4,4,5,4,5,5,6,4,5,5,6,5,6,6,7,4,5,5,6,5,6,6,7,5,6,6,7,6,7,7,8] (i.val:Int)=some ((aAg 8 i.val:Nat):Int):=by decide+kernel
theorem cnt_at {i:Nat}(hi:i<256):byte' [0,1,1,2,1,2,2,3,1,2,2,3,2,3,3,4,1,2,2,3,2,3,3,4,2,3,3,4,3,4,4,5,1,2,2,3,2,3,3,4,2,3,3,4,3,4,4,5,2,3,3,4,3,4,4,5,3,4,4,5,4,5,5,6,1,2,2,3,2,3,3,4,2,3,3,4,3,4,4,5,2,3,3,4,3,4,4,5,3,4,4,5,4,5,5,6,2,3,3,4,3,4,4,5,3,4,4,5,4,5,5,6,3,4,4,5,4,5,5,6,4,5,5,6,5,6,6,7,1,2,2,3,2,3,3,4,2,3,3,4,3,4,4,5,2,3,3,4,3,4,4,5,3,4,4,5,4,5,5,6,2,3,3,4,3,4,4,5,3,4,4,5,4,5,5,6,3,4,4,5,4,5,5,6,4,5,5,6,5,6,6,7,2,3,3,4,3,4,4,5,3,4,4,5,4,5,5,6,3,4,4,5,4,5,5,6,4,5,5,6,5,6,6,7,3,4,4,5,4,5,5,6,4,5,5,6,5,6,6,7,4,5,5,6,5,6,6,7,5,6,6,7,6,7,7,8] (i:Int)=some ((aAg 8 i:Nat):Int):=cnt_tab ⟨i,hi⟩
theorem ones_eq {n:Nat}(e:n<65536):Fd2 (n:Int)=some ((pop n:Nat):Int):=by
 have h1:=cnt_at (i:=n/256) (by omega);have a:=cnt_at (i:=n%256) (by omega);have c:aAo .u16 (n:Int) 8=some ((n/256:Nat):Int):=aBd (b:=8) (by decide);have d:bits .and .u16 (n:Int) 255=((n%256:Nat):Int):=by rw [aFr (m:=256) 8 (by decide) (by decide) (by omega) (by omega)];omega
 have f:=aIp 8 (n/256);have j:=aIp 8 (n%256);have k:=pop_eq (n:=n);unfold Fd2;rw [c,zC,h1,zC,zK,d,a,zC,zK,zK];generalize aAg 8 (n/256)=A at *;generalize aAg 8 (n%256)=B at *;rw [wrap_u8 (by omega) (by omega),wrap_i64 (by omega) (by omega)];congr 1;omega
theorem aMf {n:Nat}(a:n<65536):Fbb (n:Int)=some (decide (qH n)):=by
 have q:=aIp 16 n;unfold Fbb;simp only [zK,ones_eq a,zC];have e:jF ((pop n:Nat):Int) 2=some ((pop n%2:Nat):Int):=pO (b:=2) (by decide);rw [e];simp only [zC];have c:decide ((n:Int)<=4095)=decide (n<=4095):=vZ (by omega);have d:decide (((pop n%2:Nat):Int)=1)=decide (aIk n):=vZ (by unfold aIk;omega);have f:decide (qH n)=(decide (n<=4095)&&decide (aIk n)):=by
  rw [Bool.eq_iff_iff,Bool.and_eq_true,decide_eq_true_eq,decide_eq_true_eq,decide_eq_true_eq];exact Iff.rfl
 rw [c,d,f];generalize decide (aIk n)=z
 cases decide (n<=4095)<;>rfl
theorem aCo {x:Nat}(a:x<65536):Fam (x:Int)=some ((x%2048:Nat):Int):=by
 unfold Fam;simp only [zK];rw [aFr (m:=2048) 11 (by decide) (by decide) (by omega) (by omega),wrap_i64 (by omega) (by omega)];congr 1
section
variable {g:List Nat}{h:g.length=64}
theorem number_eq (a:Small g):Fbf (some (en g h))=some ((aBg g:Nat):Int):=by
 have h1:=a 1;have b:=a 2;unfold Fbf;rw [zC,show(1:Int)=((1:Nat):Int)from rfl,kV (by decide),zC,aCo h1,zC,zC,show(2:Int)=((2:Nat):Int)from rfl,kV (by decide),zC,aCo b,zC];have e:jV .i64 ((wd g 2%2048:Nat):Int) 11=some ((wd g 2%2048*2048:Nat):Int):=by
  unfold jV;rw [if_pos (by decide)]
  congr 1
  rw [show(2:Int)^(11:Int).toNat=2048 by decide,wrap_i64 (by omega) (by omega)];omega
 rw [e,zC,zK,OB.or_comm,aLy (m:=2048) 11 (by decide) (by omega) (by omega) (by omega) (by omega) (by omega) (by omega)];unfold aBg
 congr 1;omega
theorem sum_eq (a:Small g):Feg (some (en g h))=some ((aHa g:Nat):Int):=by
 have L:Fgz (some (en g h)) (0,0)=some ((aHa g:Nat):Int):=by
  unfold Fgz;refine jB (λi=>(((aNb g i:Nat):Int),((i:Nat):Int))) 0 60 _ (by decide) (by decide) (λk i _ _=>?_) (λk=>rfl);have h1:=a (i+1);have c:=aJo g i;have b:((i:Int)+1)=((i+1:Nat):Int):=by omega
  simp only [zK];rw [show decide ((i:Int)<60)=true from dT (by omega),zV,wrap_i64 (by omega) (by omega),zC,b,kV (by omega),zC,aCo h1,zC,
   aPp _ _ (by omega) (by omega)]
  rfl
 unfold Feg;rw [L,zC]
theorem crc_bits (a:Small g) {i:Nat} (hi:i<62) (n:Nat) (b:n<4194304):Fge (some (en g h)) (i:Int) ((n:Int),11)=some ((jY n (wd g i) 12:Nat):Int):=by
 unfold Fge;have h1:=a i;refine jB (λj=>(((jY n (wd g i) j:Nat):Int),11-(j:Int))) 0 12 _ (by decide) (by decide) (λk j _ _=>?_) (λk=>?_)
 ·have c:=aJy (n:=n) (w:=wd g i) b j;generalize hq:jY n (wd g i) j=q at *
  have d:(11:Int)-(j:Int)=((11-j:Nat):Int):=by omega
  have e:jV .i64 (q:Int) 1=some ((q*2:Nat):Int):=by
   unfold jV;rw [if_pos (by decide)]
   congr 1
   rw [show(2:Int)^(1:Int).toNat=2 by decide,wrap_i64 (by omega) (by omega)];omega
  have f:bits .and .i64 ((q*2:Nat):Int) 4194303=((q*2%4194304:Nat):Int):=by
   rw [aGd (m:=4194304) 22 (by decide) (by decide) (by omega) (by omega)];omega
  have l:bits .and .u16 ((wd g i/2^(11-j):Nat):Int) 1=((wd g i/2^(11-j)%2:Nat):Int):=by
   have:wd g i/2^(11-j)<=wd g i:=Nat.div_le_self _ _;generalize wd g i/2^(11-j)=z at *
   rw [aFr (m:=2) 1 (by decide) (by decide) (by omega) (by omega)];omega
  simp only [zK];rw [show decide ((0:Int)<=11-(j:Int))=true from dT (by omega),zV,and_top c,e,zC,f,zC,kV (by omega),zC,d,aBd (by show 11-j<=16;omega),zC,l];have o:decide ((if 2097152<=q then(2097152:Int)else 0)≠0)=decide (2097152<=q):=by split<;>simp_all
  have p:decide (((wd g i/2^(11-j)%2:Nat):Int)=1)=decide (wd g i/2^(11-j)%2=1):=vZ (by omega);have r:IntKind.i64.wrap (((11-j:Nat):Int)-1)=11-((j+1:Nat):Int):=by rw [wrap_i64 (by omega) (by omega)];omega
  rw [o,p,r]
  cases hb:(!(decide (2097152<=q)==decide (wd g i/2^(11-j)%2=1)))with
  |true=>
   have s:bits .xor .i64 ((q*2%4194304:Nat):Int) 2097167=(((q*2%4194304)^^^2097167:Nat):Int):=aSo (q*2%4194304) 2097167 rfl rfl (by omega) (by decide);rw [zV,zC,s];rw [<-hq]at hb;rw [aUo hb,hq]
  |false=>
   rw [zT,zC];rw [<-hq]at hb;rw [aWh hb,hq]
 ·simp only [zK];rw [show decide ((0:Int)<=11-((12:Nat):Int))=false from by decide,zT]
theorem check_eq (a:Small g):Fch (some (en g h))=some ((checkN g:Nat):Int):=by
 have L:Ffj (some (en g h)) (0,0)=some ((checkN g:Nat):Int):=by
  unfold Ffj;refine jB (λi=>(((aEw g i:Nat):Int),((i:Nat):Int))) 0 62 _ (by decide) (by decide) (λk i _ hi=>?_) (λk=>rfl);simp only [zK];rw [show decide ((i:Int)<62)=true from dT (by omega),zV,crc_bits a hi _ (aTt g i),zC,wrap_i64 (by omega) (by omega)];rfl
 unfold Fch;rw [L,zC]
end
theorem aYd {k:Nat}(hk:k<4):at' xK.l (k:Int)=some ((wd tab k:Nat):Int):=by
 have: ∀i:Fin 4,at' xK.l (i.val:Int)=some ((wd tab i.val:Nat):Int):=by decide+kernel
 exact this ⟨k,hk⟩
theorem wide_eq {g:List Nat}{h:g.length=64}:Fee (some (en g h))=some (decide (aIa g)):=by
 unfold Fee;rw [yN];unfold Fj6
 by_cases a:aIa g
 ·rw [dT a];obtain⟨i0,e,h1⟩:=a
  -- the first one
  have: ∃m,m<64/\4095<wd g m/\ ∀i,i<m-> ¬4095<wd g i:=by
   have c: ∀n,(∀i,i<n-> ¬4095<wd g i)\/ ∃m,m<n/\4095<wd g m/\ ∀i,i<m-> ¬4095<wd g i:=by
    intro n
    induction n with
    |zero=>exact .inl λi hi=>by omega
    |succ n b=>
     rcases b with b|⟨m,_,f,j⟩
     ·by_cases d:4095<wd g n
      ·exact .inr ⟨n,by omega,d,b⟩
      ·exact .inl (upto_succ b d)
     ·exact .inr ⟨m,by omega,f,j⟩
   rcases c 64 with k|k
   ·exact absurd h1 (k i0 e)
   ·exact k
  obtain⟨m,m1,m2,m3⟩:=this;refine jB (λi=>(i:Int)) 0 m _ (by omega) (by omega) (λk i _ hi=>?_) (λk=>?_)
  ·simp only [zK];rw [show decide ((i:Int)<64)=true from dT (by omega),zV,zC,kV (by omega),zC,show decide ((4095:Int)<((wd g i:Nat):Int))=false from qD (by have:=m3 i hi;omega),zT,wrap_i64 (by omega) (by omega)];rfl
  ·simp only [zK];rw [show decide ((m:Int)<64)=true from dT (by omega),zV,zC,kV (by omega),zC,show decide ((4095:Int)<((wd g m:Nat):Int))=true from dT (by omega),zV]
 ·rw [qD a];have l:=notwide h a;refine jB (λi=>(i:Int)) 0 64 _ (by decide) (by decide) (λk i _ hi=>?_) (λk=>rfl);simp only [zK];rw [show decide ((i:Int)<64)=true from dT (by omega),zV,zC,kV (by omega),zC,show decide ((4095:Int)<((wd g i:Nat):Int))=false from qD (by have:=l i;omega),zT,wrap_i64 (by omega) (by omega)];rfl
def aHh (g:List Nat):Prop:= ∀i,i<64->1<=i->qH (wd g i)
instance (g:List Nat):Decidable (aHh g):=by unfold aHh;exact inferInstance
def qM (g:List Nat):Prop:= ¬aIa g/\wd g 0=wd tab (aBg g%4)/\wd g 61%2048=aHa g/\aHh g/\wd g 62%2048*2048+wd g 63%2048=checkN g
instance (g:List Nat):Decidable (qM g):=by unfold qM;exact inferInstance
theorem or_data {a b:Nat} (c:a<2048) (d:b<2048): ∃z,jV .i64 (a:Int) 11=some z/\bits .or .i64 z (b:Int)=((a*2048+b:Nat):Int):=by
 refine⟨((a*2048:Nat):Int),?_,?_⟩;unfold jV;rw [if_pos (by decide)];congr 1;rw [show(2:Int)^(11:Int).toNat=2048 by decide,wrap_i64 (by omega) (by omega)];omega;rw [aLy (m:=2048) 11 (by decide) (by omega) (by omega) (by omega) (by omega) (by omega) (by omega)];omega
section
variable {g:List Nat}{h:g.length=64}
theorem odds_loop (l:Small g) (k:Unit->Option Bool):Ffd (some (en g h)) k 1=if aHh g then k ()else some false:=by
 unfold Ffd;have o: ∀n,(∀i,1<=i->i<n->qH (wd g i))\/ ∃m,1<=m/\m<n/\ ¬qH (wd g m)/\ ∀i,1<=i->i<m->qH (wd g i):=by
  intro n
  induction n with
  |zero=>exact .inl λi _ hi=>by omega
  |succ n d=>
   rcases d with d|⟨m,f,r,j,p⟩
   ·by_cases s:1<=n
    ·by_cases q:qH (wd g n)
     ·refine .inl λi h1 t=>?_
      by_cases e:i=n
      ·subst e;exact q
      ·exact d i h1 (by omega)
     ·exact .inr ⟨n,s,by omega,q,d⟩
    ·exact .inl λi h1 t=>by omega
   ·exact .inr ⟨m,f,by omega,j,p⟩
 rcases o 64 with hk|⟨m,f,r,j,p⟩
 ·rw [if_pos (show aHh g from λi a b=>hk i b a)];refine jB (λi=>(i:Int)) 1 64 _ (by decide) (by decide) (λk i c hi=>?_) (λk=>rfl);simp only [zK];rw [show decide ((i:Int)<64)=true from dT (by omega),zV,zC,kV (by omega),zC,aMf (l i),zC,dT (hk i c hi),wrap_i64 (by omega) (by omega)];rfl
 ·rw [if_neg (show¬aHh g from λa=>j (a m (by omega) f))];refine jB (λi=>(i:Int)) 1 m _ f (by omega) (λk i c hi=>?_) (λk=>?_)
  ·simp only [zK];rw [show decide ((i:Int)<64)=true from dT (by omega),zV,zC,kV (by omega),zC,aMf (l i),zC,dT (p i c hi),wrap_i64 (by omega) (by omega)];rfl
  ·simp only [zK];rw [show decide ((m:Int)<64)=true from dT (by omega),zV,zC,kV (by omega),zC,aMf (l m),zC,qD j];rfl
theorem sound_eq (c:Small g):Fdq (some (en g h))=some (decide (qM g)):=by
 have d:jF ((aBg g:Nat):Int) 4=some ((aBg g%4:Nat):Int):=pO (b:=4) (by decide);have j:=aYm g;have a0:at' (en g h).l 0=some ((wd g 0:Nat):Int):=kV (i:=0) (by decide);have e:at' (en g h).l 61=some ((wd g 61:Nat):Int):=kV (i:=61) (by decide);have a2:at' (en g h).l 62=some ((wd g 62:Nat):Int):=kV (i:=62) (by decide);have a3:at' (en g h).l 63=some ((wd g 63:Nat):Int):=kV (i:=63) (by decide);obtain⟨_,f,z2⟩:=or_data (a:=wd g 62%2048) (b:=wd g 63%2048) (by omega) (by omega);unfold Fdq;simp only [wide_eq,zC,zK,yN,number_eq c,d,aYd (show aBg g%4<4 by omega),a0,e,a2,a3,aCo (c 61),aCo (c 62),aCo (c 63),sum_eq c,check_eq c,f,z2,odds_loop c];have d1:decide (((wd g 0:Nat):Int)≠((wd tab (aBg g%4):Nat):Int))= !decide (wd g 0=wd tab (aBg g%4)):=by rw [Bool.eq_iff_iff];simp;omega
 have d2:decide (((wd g 61%2048:Nat):Int)≠((aHa g:Nat):Int))= !decide (wd g 61%2048=aHa g):=by rw [Bool.eq_iff_iff];simp;omega
 have d3:decide (((wd g 62%2048*2048+wd g 63%2048:Nat):Int)=((checkN g:Nat):Int))=decide (wd g 62%2048*2048+wd g 63%2048=checkN g):=vZ (by omega);rw [d1,d2,d3];by_cases c1:aIa g;rw [dT c1,qD (show¬qM g from λq=>q.1 c1)];rfl;by_cases c2:wd g 0=wd tab (aBg g%4);by_cases c3:wd g 61%2048=aHa g;by_cases c4:aHh g;rw [qD c1,dT c2,dT c3,if_pos c4];show some _=some _;congr 1;exact vZ ⟨λq=>⟨c1,c2,c3,c4,q⟩,λq=>q.2.2.2.2⟩;rw [qD c1,dT c2,dT c3,if_neg c4,qD (show¬qM g from λq=>c4 q.2.2.2.1)];rfl;rw [qD c1,dT c2,qD c3,qD (show¬qM g from λq=>c3 q.2.2.1)];rfl;rw [qD c1,qD c2,qD (show¬qM g from λq=>c2 q.2.1)];rfl
end
section
variable {g:List Nat}{h:g.length=64}
theorem Number_eq (a:Small g):Fdf (en g h)=some ((aLt g).1,(aLt g).2):=by
 have b:at' (en g h).l 1=some ((wd g 1:Nat):Int):=kV (i:=1) (by decide);have a2:at' (en g h).l 2=some ((wd g 2:Nat):Int):=kV (i:=2) (by decide);unfold Fdf aLt;simp only [b,a2,zC,zK,aMf (a 1),aMf (a 2),number_eq a];by_cases c1:qH (wd g 1);by_cases c2:qH (wd g 2);rw [dT c1,dT c2,if_pos ⟨c1,c2⟩];rfl;rw [dT c1,qD c2,if_neg (λq=>c2 q.2)];rfl;rw [qD c1,if_neg (λq=>c1 q.1)];rfl
end
def flW (g:List Nat):Nat->List aB
 |0=>[]
 |k+1=>if 4095<wd g k then flW g k++[⟨(k:Nat),5⟩]else flW g k
def flO (l:List aB)(g:List Nat):Nat->List aB
 |0=>l
 |k+1=>if qH (wd g (k+1))then flO l g k else flO l g k++[⟨((k+1:Nat):Int),2⟩]
theorem aZf (g:List Nat): ∀k,(flW g k).length<=k
 |0=>by simp [flW]
 |k+1=>by have:=aZf g k;unfold flW;split<;>simp<;>omega
theorem aQd (l:List aB)(g:List Nat): ∀k,(flO l g k).length<=l.length+k
 |0=>by simp [flO]
 |k+1=>by have:=aQd l g k;unfold flO;split<;>simp<;>omega
theorem aPs (g:List Nat): ∀k,flW g k=[]↔ ∀i,i<k-> ¬4095<wd g i
 |0=>by simp [flW]
 |k+1=>by
  have a:=aPs g k;unfold flW;constructor
  ·intro h;split at h
   ·simp at h
   ·rename_i c;exact upto_succ (a.1 h) c
  ·intro h;rw [if_neg (h k (by omega))];exact a.2 λi _=>h i (by omega)
theorem aZp (g:List Nat): ∀k,flO [] g k=[]↔ ∀i,1<=i->i<k+1->qH (wd g i)
 |0=>by simp [flO];omega
 |k+1=>by
  have a:=aZp g k;unfold flO;constructor
  ·intro h;split at h
   ·rename_i c;intro i h1 b
    by_cases e:i=k+1
    ·subst e;exact c
    ·exact a.1 h i h1 (by omega)
   ·simp at h
  ·intro h;rw [if_pos (h (k+1) (by omega) (by omega))];exact a.2 λi h1 b=>h i h1 (by omega)
def flS (g:List Nat):List aB:=if wd g 0=wd tab (aBg g%4)then []else [⟨0,1⟩]
def flP (g:List Nat):List aB:=flO (flS g) g 63
def flT (g:List Nat):List aB:=if wd g 61%2048=aHa g then flP g else flP g++[⟨61,3⟩]
def flC (g:List Nat):List aB:=if wd g 62%2048*2048+wd g 63%2048=checkN g then flT g else flT g++[⟨62,4⟩]
def aPz (g:List Nat):List aB:=if flW g 64=[]then flC g else flW g 64
theorem aZb (g:List Nat):(flS g).length<=1:=by unfold flS;split<;>simp
theorem aXt (g:List Nat):(flP g).length<=64:=by have:=aQd (flS g) g 63;have:=aZb g;unfold flP;omega
theorem flT_len (g:List Nat):(flT g).length<=65:=by have:=aXt g;unfold flT;split<;>simp<;>omega
theorem aXg (g:List Nat):aPz g=[]↔qM g:=by
 have e:flW g 64=[]↔ ¬aIa g:=by
  rw [aPs];exact⟨λh ⟨i,h1,d⟩=>h i h1 d,λh i h1 d=>h ⟨i,h1,d⟩⟩
 have f:flO [] g 63=[]↔aHh g:=by
  rw [aZp];exact⟨λh i a b=>h i b a,λh i a b=>h i b a⟩
 have j: ∀(l:List aB) k,flO l g k=[]->l=[]:=by
  intro l k
  induction k with
  |zero=>exact id
  |succ k m=>
   intro h;unfold flO at h;split at h
   ·exact m h
   ·simp at h
 unfold aPz;constructor
 ·intro h;split at h
  ·rename_i c;unfold flC at h;split at h
   ·rename_i c5;unfold flT at h;split at h
    ·rename_i c3;unfold flP at h;have h1:=j _ _ h;unfold flS at h1;split at h1
     ·rename_i c2;unfold flS at h;rw [if_pos c2]at h;exact⟨e.1 c,c2,c3,f.1 h,c5⟩
     ·simp at h1
    ·simp at h
   ·simp at h
  ·rename_i c;exact absurd h c
 ·rintro⟨c1,c2,c3,c4,c5⟩;rw [if_pos (e.2 c1)];unfold flC flT flP flS;rw [if_pos c5,if_pos c3,if_pos c2];exact f.2 c4
theorem aUb {l:List aB}(x:aB)(h:l.length<=200):app' 16 l [x]=some (l++[x]):=by
 unfold app';rw [if_pos];rw [maxLen_eq];simp;omega
theorem rflaws_L1 {g:List Nat}{h:g.length=64}:Ffk (en g h) ([],0)=some (flW g 64):=by
 unfold Ffk;refine jB (λi=>(flW g i,(i:Int))) 0 64 _ (by decide) (by decide) (λk i _ _=>?_) (λk=>rfl);have:=aZf g i;simp only [zK];rw [show decide ((i:Int)<64)=true from dT (by omega),zV,kV (by omega),zC,aUb _ (by omega),wrap_i64 (by omega) (by omega)];by_cases c:4095<wd g i;rw [show decide ((4095:Int)<((wd g i:Nat):Int))=true from dT (by omega),zV,zC,zC,show flW g (i+1)=flW g i++[⟨(i:Nat),5⟩]from if_pos c];rfl;rw [show decide ((4095:Int)<((wd g i:Nat):Int))=false from qD (by omega),zT,zC,show flW g (i+1)=flW g i from if_neg c];rfl
theorem rsync_eq {n:Nat}:Fda (n:Int)=some ((wd tab (n%4):Nat):Int):=by
 have a:jF (n:Int) 4=some ((n%4:Nat):Int):=pO (b:=4) (by decide);unfold Fda;rw [a,zC];have:=aYd (k:=n%4) (by omega);rw [show(⟨[583,1464,2631,3512],rfl⟩:Arr 4 Int)=xK from rfl,this,zC]
theorem aZv {n:Nat} (l:n<65536):Fbm (n:Int)=some (decide (aIk n)):=by
 have o:Fej ((n:Int),0)=some ((pop n:Nat):Int):=by
  have i: ∀(B:(Int×Int->Option Int)->Int×Int->Option Int),(∀k (a b:Int),B k (a,b)=gJ (decide (0<a)) (gB (jF a 2) λx=>gB (qR .i64 a 2) λy=>k (y,IntKind.i64.wrap (b+x))) (some b))->
    ∀(f m c d:Nat),m<2^f->f<=16->c+f<=16->f<d->jC B d ((m:Int),(c:Int))=some (((c+aAg f m:Nat):Int)):=by
   intro B j f
   induction f with
   |zero=>
    intro m c d h1 _ _ p;obtain⟨d,rfl⟩: ∃k,d=k+1:=⟨d-1,by omega⟩;have:m=0:=by omega
    subst this;rw [jC,j];rfl
   |succ f q=>
    intro m c d h1 r _ p;obtain⟨d,rfl⟩: ∃k,d=k+1:=⟨d-1,by omega⟩;rw [jC,j]
    by_cases s:m=0
    ·subst s;rw [aMz];rfl
    ·have t:jF (m:Int) 2=some ((m%2:Nat):Int):=pO (b:=2) (by decide);have hm:m<65536:=Nat.lt_of_lt_of_le h1 (Nat.pow_le_pow_right (n:=2) (by decide) r);have u:qR .i64 (m:Int) 2=some ((m/2:Nat):Int):=aZg (b:=2) (by decide) (by omega);rw [show decide (0<(m:Int))=true from dT (by omega),zV,t,zC,u,zC,wrap_i64 (by omega) (by omega),show((c:Int)+((m%2:Nat):Int))=((c+m%2:Nat):Int)by omega];rw [q (m/2) (c+m%2) d (by rw [Nat.pow_succ]at h1;omega) (by omega) (by omega) (by omega),aAg]
     congr 2;omega
  have e: ∀B:(Int×Int->Option Int)->Int×Int->Option Int,fA B ((n:Int),0)=jC B FU ((n:Int),((0:Nat):Int)):=λB=>rfl
  unfold Fej;rw [e,i _ (λk a b=>rfl) 16 n 0 FU l (by decide) (by decide) (by unfold FU;omega),Nat.zero_add];rfl
 unfold Fbm;rw [o,zC];have e:jF ((pop n:Nat):Int) 2=some ((pop n%2:Nat):Int):=pO (b:=2) (by decide);rw [e,zC,zK];refine congrArg some (vZ ?_);unfold aIk;generalize pop n%2=z;omega
section
variable {g:List Nat}{h:g.length=64}
theorem rsum_eq (a:Small g):Fcj (en g h)=some ((aHa g:Nat):Int):=by
 have L:Ffl (en g h) (0,1)=some ((aHa g:Nat):Int):=by
  unfold Ffl;refine jB (λi=>(((aNb g i:Nat):Int),((i+1:Nat):Int))) 0 60 _ (by decide) (by decide) (λk i _ _=>?_) (λk=>rfl);have h1:=a (i+1);have c:=aJo g i;have e:jF ((wd g (i+1):Nat):Int) 2048=some ((wd g (i+1)%2048:Nat):Int):=pO (b:=2048) (by decide);simp only [zK];rw [show decide (((i+1:Nat):Int)<=60)=true from dT (by omega),zV,kV (by omega),zC,wrap_i64 (by omega) (by omega),e,zC,
   aPp _ _ (by omega) (by omega),wrap_i64 (by omega) (by omega)]
  rfl
 unfold Fcj;rw [L,zC]
theorem rcheck_eq (p:Small g):Fc8 (en g h)=some ((checkN g:Nat):Int):=by
 have L:Fe0 (en g h) (0,0)=some ((checkN g:Nat):Int):=by
  unfold Fe0;rw [<-ref_check (f:=g) (k:=766) rfl];refine jB (λi=>(((nI g i:Nat):Int),((i:Nat):Int))) 0 766 _ (by decide) (by decide) (λk i _ _=>?_) (λk=>rfl);have u:=aGi g i;have q:=aPr g i;have v:=p (i/12);simp only [zK];rw [show decide ((i:Int)<766)=true from dT (by omega),zV];have a:(gJ (decide ((i:Int)<744)) (gB (qR .i64 (i:Int) 12) λd=>gB (at' (en g h).l d) λe=>gB (jF (i:Int) 12) λj=>gB (aAo .i64 (IntKind.i64.wrap e) (IntKind.i64.wrap (11-j))) λo=>some (bits .and .i64 o 1)) (some 0))=some ((wS g i:Nat):Int):=by
   unfold wS
   by_cases c:i<744
   ·rw [show decide ((i:Int)<744)=true from dT (by omega),zV,if_pos c];have r:qR .i64 (i:Int) 12=some ((i/12:Nat):Int):=aZg (b:=12) (by decide) (by omega);have s:jF (i:Int) 12=some ((i%12:Nat):Int):=pO (b:=12) (by decide);rw [r,zC,kV (by omega),zC,s,zC,wrap_i64 (by omega) (by omega),wrap_i64 (by omega) (by omega),show(11:Int)-((i%12:Nat):Int)=((11-i%12:Nat):Int)by omega,
     aBd (b:=11-i%12) (by show 11-i%12<=64;omega),zC]
    have:wd g (i/12)/2^(11-i%12)<=wd g (i/12):=Nat.div_le_self _ _;generalize wd g (i/12)/2^(11-i%12)=z at *
    rw [aGd (m:=2) 1 (by decide) (by decide) (by omega) (by omega)]
    congr 1
   ·rw [show decide ((i:Int)<744)=false from qD (by omega),zT,if_neg c];rfl
  rw [a,zC,wrap_i64 (n:=((nI g i:Nat):Int)*2) (by omega) (by omega),wrap_i64 (n:=((nI g i:Nat):Int)*2+((wS g i:Nat):Int)) (by omega) (by omega),wrap_i64 (n:=(i:Int)+1) (by omega) (by omega)];show gB _ _=k (((uD (nI g i) (wS g i):Nat):Int),_);rw [show((nI g i:Nat):Int)*2+((wS g i:Nat):Int)=((nI g i*2+wS g i:Nat):Int)by omega];unfold uD
  by_cases c:4194304<=nI g i*2+wS g i
  ·rw [show decide ((4194304:Int)<=((nI g i*2+wS g i:Nat):Int))=true from dT (by omega),zV,zC];have t:bits .xor .i64 ((nI g i*2+wS g i:Nat):Int) 6291471=(((nI g i*2+wS g i)^^^6291471:Nat):Int):=aSo (nI g i*2+wS g i) 6291471 rfl rfl (by omega) (by decide);rw [t,if_pos c];rfl
  ·rw [show decide ((4194304:Int)<=((nI g i*2+wS g i:Nat):Int))=false from qD (by omega),zT,zC,if_neg c];rfl
 unfold Fc8;rw [L,zC]
theorem aLl (a:Small g):Fbq (en g h)=some ((aBg g:Nat):Int):=by
 have h1:=a 1;have j:=a 2;have c:at' (en g h).l 1=some ((wd g 1:Nat):Int):=kV (i:=1) (by decide);have a2:at' (en g h).l 2=some ((wd g 2:Nat):Int):=kV (i:=2) (by decide);have d:jF ((wd g 1:Nat):Int) 2048=some ((wd g 1%2048:Nat):Int):=pO (b:=2048) (by decide);have e:jF ((wd g 2:Nat):Int) 2048=some ((wd g 2%2048:Nat):Int):=pO (b:=2048) (by decide);unfold Fbq;simp only [zK];have f:IntKind.i64.wrap (((wd g 2%2048:Nat):Int)*2048)=((wd g 2%2048*2048:Nat):Int):=by rw [wrap_i64 (by omega) (by omega)];omega
 rw [c,zC,wrap_i64 (by omega) (by omega),d,zC,a2,zC,wrap_i64 (by omega) (by omega),e,zC,f,wrap_i64 (by omega) (by omega)];unfold aBg;congr 1
theorem rflaws_L2 (a:Small g) {l:List aB} (e:l.length<=1) (b:flW g 64=[]):Ff6 (en g h) (l,1)=some (flO l g 63):=by
 unfold Ff6;refine(jB (λi=>(flO l g i,((i+1:Nat):Int))) 0 63 (some (flO l g 63)) (by decide) (by decide) (λk i _ _=>?_) (λk=>rfl));have:=aQd l g i;have h1:=a (i+1);have f:=(aPs g 64).1 b (i+1) (by omega);simp only [zK];rw [show decide (((i+1:Nat):Int)<64)=true from dT (by omega),zV,kV (by omega),zC,wrap_i64 (by omega) (by omega),aZv (a _),zC,aUb _ (by omega),wrap_i64 (by omega) (by omega)];by_cases c:qH (wd g (i+1));rw [dT c.2,show flO l g (i+1)=flO l g i from if_pos c];rfl;have d: ¬aIk (wd g (i+1)):=λq=>c ⟨by omega,q⟩;rw [qD d,show flO l g (i+1)=flO l g i++[⟨((i+1:Nat):Int),2⟩]from if_neg c];rfl
theorem rFlaws_eq (a:Small g):Fd1 (en g h)=some (aPz g):=by
 have q:=aYm g;have r:=a 0;have k:=a 61;have m:=a 62;have n:=a 63;have a0:at' (en g h).l 0=some ((wd g 0:Nat):Int):=kV (i:=0) (by decide);have o:at' (en g h).l 61=some ((wd g 61:Nat):Int):=kV (i:=61) (by decide);have a2:at' (en g h).l 62=some ((wd g 62:Nat):Int):=kV (i:=62) (by decide);have a3:at' (en g h).l 63=some ((wd g 63:Nat):Int):=kV (i:=63) (by decide);have d:jF ((wd g 61:Nat):Int) 2048=some ((wd g 61%2048:Nat):Int):=pO (b:=2048) (by decide);have e:jF ((wd g 62:Nat):Int) 2048=some ((wd g 62%2048:Nat):Int):=pO (b:=2048) (by decide);have f:jF ((wd g 63:Nat):Int) 2048=some ((wd g 63%2048:Nat):Int):=pO (b:=2048) (by decide);have d1:decide (((wd g 0:Nat):Int)≠((wd tab (aBg g%4):Nat):Int))= !decide (wd g 0=wd tab (aBg g%4)):=by rw [Bool.eq_iff_iff];simp;omega
 have d2:decide (((wd g 61%2048:Nat):Int)≠((aHa g:Nat):Int))= !decide (wd g 61%2048=aHa g):=by rw [Bool.eq_iff_iff];simp;omega
 have d3:decide ((((wd g 62%2048:Nat):Int)*2048+((wd g 63%2048:Nat):Int))≠((checkN g:Nat):Int))= !decide (wd g 62%2048*2048+wd g 63%2048=checkN g):=by rw [Bool.eq_iff_iff];simp;omega
 unfold Fd1 aPz;rw [rflaws_L1,zC,zK,zK]
 by_cases c:flW g 64=[]
 ·rw [if_pos c,c];rw [show decide (0<(([]:List aB).length:Int))=false from rfl,zT,a0,zC];simp only [zK];rw [wrap_i64 (by omega) (by omega),aLl a,zC,rsync_eq,zC,d1];have p:(gJ (!decide (wd g 0=wd tab (aBg g%4))) (gB (app' 16 [] [(⟨0,1⟩:aB)]) λx=>some x) (some []))=some (flS g):=by
   rw [aUb _ (by simp)];unfold flS
   by_cases c2:wd g 0=wd tab (aBg g%4)
   ·rw [dT c2,if_pos c2];rfl
   ·rw [qD c2,if_neg c2];rfl
  rw [p,zC,rflaws_L2 a (aZb g) c,zC,o,zC,wrap_i64 (by omega) (by omega),d,zC,rsum_eq a,zC,d2];have j:(gJ (!decide (wd g 61%2048=aHa g)) (gB (app' 16 (flP g) [(⟨61,3⟩:aB)]) λx=>some x) (some (flP g)))=some (flT g):=by
   have:=aXt g;rw [aUb _ (by omega)];unfold flT
   by_cases c2:wd g 61%2048=aHa g
   ·rw [dT c2,if_pos c2];rfl
   ·rw [qD c2,if_neg c2];rfl
  unfold flP at j;rw [j,zC,a2,zC,wrap_i64 (by omega) (by omega),e,zC,a3,zC,wrap_i64 (by omega) (by omega),wrap_i64 (by omega) (by omega),f,zC,wrap_i64 (by omega) (by omega),rcheck_eq a,zC,d3];have:=flT_len g;rw [aUb _ (by omega)];unfold flC
  by_cases c2:wd g 62%2048*2048+wd g 63%2048=checkN g
  ·rw [dT c2,if_pos c2];rfl
  ·rw [qD c2,if_neg c2];rfl
 ·rw [if_neg c,show decide (0<((flW g 64).length:Int))=true from dT (by have:=List.length_pos_iff.2 c;omega),zV]
theorem rSound_eq (a:Small g):Fcn (en g h)=some (decide (qM g)):=by
 unfold Fcn;rw [rFlaws_eq a,zC];simp only [zK];congr 1;refine vZ ?_;rw [<-aXg];constructor;intro h;exact List.eq_nil_of_length_eq_zero (by omega);intro h;rw [h];rfl
end
theorem aRo {n:Nat}(a:n<65536):Fb4 (n:Int)=some (decide (qH n)):=by
 unfold Fb4;simp only [zK];rw [wrap_i64 (by omega) (by omega),aZv a,zC];have b:decide ((n:Int)<=4095)=decide (n<=4095):=vZ (by omega);have c:decide (qH n)=(decide (n<=4095)&&decide (aIk n)):=by
  rw [Bool.eq_iff_iff,Bool.and_eq_true,decide_eq_true_eq,decide_eq_true_eq,decide_eq_true_eq];exact Iff.rfl
 rw [b,c];generalize decide (aIk n)=z
 cases decide (n<=4095)<;>rfl
section
variable {g:List Nat}{h:g.length=64}
theorem aXf (a:Small g):Fdi (en g h)=some ((aLt g).1,(aLt g).2):=by
 have b:at' (en g h).l 1=some ((wd g 1:Nat):Int):=kV (i:=1) (by decide);have a2:at' (en g h).l 2=some ((wd g 2:Nat):Int):=kV (i:=2) (by decide);unfold Fdi aLt;simp only [b,a2,zC,zK,aRo (a 1),aRo (a 2),aLl a];by_cases c1:qH (wd g 1);by_cases c2:qH (wd g 2);rw [dT c1,dT c2,if_pos ⟨c1,c2⟩];rfl;rw [dT c1,qD c2,if_neg (λq=>c2 q.2)];rfl;rw [qD c1,if_neg (λq=>c1 q.1)];rfl
end
end Go.Lf
