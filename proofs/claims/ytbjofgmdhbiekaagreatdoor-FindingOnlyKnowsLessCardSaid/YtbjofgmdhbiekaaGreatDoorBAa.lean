/- Laws that the claim stands on; no condition beyond those stated. -/
import Derived.Test.YtbjofgmdhbiekaaGreatDoorUP
import Derived.Test.YtbjofgmdhbiekaaGreatDoorPLb
namespace Go.Fr1

def uO:Nat->Nat->Nat
 |0,_=>0
 |f+1,n=>n%2+uO f (n/2)
def pop (n:Nat):Nat:=uO 16 n
def aFr (n:Nat):Prop:=pop n%2=1
instance (n:Nat):Decidable (aFr n):=by unfold aFr;exact inferInstance

theorem aFv: ∀(f n:Nat),uO f n<=f
 |0,_=>Nat.le_refl _
 |f+1,n=>by have:=aFv f (n/2);have:=Nat.mod_lt n (show 0<2 by decide);unfold uO;omega
theorem aIb: ∀(a b n:Nat),uO (a+b) n=uO a (n%2^a)+uO b (n/2^a)
 |0,b,n=>by simp [uO]
 |a+1,b,n=>by
  have c:=aIb a b (n/2);rw [show a+1+b=(a+b)+1 by omega,uO,uO,c];have d:n/2%2^a=n%2^(a+1)/2:=by
   rw [Nat.pow_succ,Nat.mul_comm,Nat.mod_mul_right_div_self]
  have e:n/2/2^a=n/2^(a+1):=by
   rw [Nat.div_div_eq_div_mul,Nat.pow_succ,Nat.mul_comm]
  have f:n%2^(a+1)%2=n%2:=Nat.mod_mod_of_dvd _ ⟨2^a,by rw [Nat.pow_succ,Nat.mul_comm]⟩;rw [d,e,f];omega
theorem aJm: ∀f,uO f 0=0
 |0=>rfl
 |f+1=>by simp [uO,aJm f]

theorem pop_eq {n:Nat}:uO 8 (n/256)+uO 8 (n%256)=pop n:=by
 have:=aIb 8 8 n;unfold pop;simp at this;omega

def wd (f:List Nat)(i:Nat):Nat:=f.getD i 0
def Small (f:List Nat):Prop:= ∀i,wd f i<65536
def wC (f:List Nat):Nat:=wd f 1%2048+wd f 2%2048*2048
def aKe (f:List Nat):Nat->Nat
 |0=>0
 |k+1=>aKe f k^^^(wd f (k+1)%2048)
def aDt (f:List Nat):Nat:=aKe f 60
theorem aHm (f:List Nat): ∀k,aKe f k<2048
 |0=>by simp [aKe]
 |k+1=>by
  have a:=aHm f k;have b:wd f (k+1)%2048<2048:=Nat.mod_lt _ (by decide);exact Nat.xor_lt_two_pow (n:=11) a b
def nP (n b:Nat):Nat:=if decide (2097152<=n)==decide (b=1)then n*2%4194304 else(n*2%4194304)^^^2097167
def kY (n w:Nat):Nat->Nat
 |0=>n
 |j+1=>nP (kY n w j) (w/2^(11-j)%2)
def aCu (f:List Nat):Nat->Nat
 |0=>0
 |k+1=>kY (aCu f k) (wd f k) 12
def checkN (f:List Nat):Nat:=aCu f 62
theorem aSa (n b:Nat):nP n b<4194304:=by
 unfold nP;have h:n*2%4194304<4194304:=Nat.mod_lt _ (by decide);split;exact h;exact Nat.xor_lt_two_pow (n:=22) h (by decide)
theorem aHx {n w:Nat}(h:n<4194304): ∀j,kY n w j<4194304
 |0=>h
 |_+1=>aSa _ _
theorem aNu (f:List Nat): ∀k,aCu f k<4194304
 |0=>by simp [aCu]
 |k+1=>aHx (aNu f k) 12
theorem aRe {n b:Nat}(h:(!(decide (2097152<=n)==decide (b=1)))=false):nP n b=n*2%4194304:=by
 unfold nP;rw [if_pos (by simpa using h)]
theorem aRt {n b:Nat}(h:(!(decide (2097152<=n)==decide (b=1)))=true):nP n b=(n*2%4194304)^^^2097167:=by
 unfold nP;rw [if_neg (by simpa using h)]
theorem aRx {n w j:Nat}(h:(!(decide (2097152<=kY n w j)==decide (w/2^(11-j)%2=1)))=false):kY n w (j+1)=kY n w j*2%4194304:=aRe h
theorem aSj {n w j:Nat}(h:(!(decide (2097152<=kY n w j)==decide (w/2^(11-j)%2=1)))=true):kY n w (j+1)=(kY n w j*2%4194304)^^^2097167:=aRt h
def aEu (f:List Nat):Prop:= ∃i,i<64/\4095<wd f i
instance (f:List Nat):Decidable (aEu f):=by unfold aEu;exact inferInstance
theorem upto_succ {P:Nat->Prop}{k:Nat}(h: ∀i,i<k->P i)(b:P k): ∀i,i<k+1->P i:=λi hi=>by
 rcases Nat.lt_succ_iff_lt_or_eq.1 hi with a|a
 ·exact h i a
 ·subst a;exact b
def tab:List Nat:=[583,1464,2631,3512]
theorem aVf (f:List Nat):wC f<4194304:=by unfold wC;omega
def okD (x:Int):Prop:=0<=x/\x<=2047
instance (x:Int):Decidable (okD x):=by unfold okD;exact inferInstance
def okAll (d:List Int):Prop:= ∀i,i<58->okD (d.getD i 0)
instance (d:List Int):Decidable (okAll d):=decidable_of_iff (¬ ∃i,i<58/\ ¬okD (d.getD i 0)) ⟨λh i hi=>Decidable.byContradiction λhn=>h ⟨i,hi,hn⟩,λh ⟨i,hi,hn⟩=>hn (h i hi)⟩
def nI (n:Nat):Prop:=n<=4095/\aFr n
instance (n:Nat):Decidable (nI n):=by unfold nI;exact inferInstance
theorem notwide {f:List Nat} (b:f.length=64) (h: ¬aEu f) (i:Nat):wd f i<4096:=by
 by_cases hi:i<64;have q: ¬4095<wd f i:=λa=>h ⟨i,hi,a⟩;omega;unfold wd;rw [List.getD_eq_getElem?_getD,List.getElem?_eq_none (by omega)];simp
def zst (n:Nat):Nat:=(n*2%4194304)^^^(if 2097152<=n then 2097167 else 0)
theorem two_xor (x y:Nat):(x^^^y)*2=(x*2)^^^(y*2):=by
 have h:=Nat.shiftLeft_xor_distrib (a:=x) (b:=y) (i:=1);simpa [Nat.shiftLeft_eq]using h
theorem aSl {n:Nat}(_:n<4194304):n*2%4194304=n%2097152*2:=by omega
theorem aTb {n:Nat}:zst n<4194304:=by
 unfold zst;refine Nat.xor_lt_two_pow (n:=22) (Nat.mod_lt _ (by decide)) ?_;split<;>decide
theorem zst_xor {x y:Nat}(k:x<4194304)(l:y<4194304):zst (x^^^y)=zst x^^^zst y:=by
 have j:x^^^y<4194304:=Nat.xor_lt_two_pow (n:=22) k l;have m:(x^^^y)%2097152=x%2097152^^^y%2097152:=Nat.xor_mod_two_pow (n:=21);have e:(x^^^y)/2097152=x/2097152^^^y/2097152:=Nat.xor_div_two_pow (n:=21);unfold zst;rw [aSl k,aSl l,aSl j,m,two_xor];generalize x%2097152*2=p;generalize y%2097152*2=q;have f:x/2097152=0\/x/2097152=1:=by omega
 have i:y/2097152=0\/y/2097152=1:=by omega
 have o: ∀a b c d:Nat,(a^^^b)^^^(c^^^d)=(a^^^c)^^^(b^^^d):=by
  intro a b c d;rw [Nat.xor_assoc,Nat.xor_assoc,<-Nat.xor_assoc b,Nat.xor_comm b c,Nat.xor_assoc c]
 rcases f with f|f<;>rcases i with i|i<;>rw [f,i]at e
 ·rw [if_neg (by simp at e;omega),if_neg (by omega),if_neg (by omega),Nat.xor_zero,Nat.xor_zero,Nat.xor_zero]
 ·rw [if_pos (by simp at e;omega),if_neg (by omega),if_pos (by omega),Nat.xor_zero,Nat.xor_assoc]
 ·rw [if_pos (by simp at e;omega),if_pos (by omega),if_neg (by omega),Nat.xor_zero,Nat.xor_assoc,Nat.xor_assoc,Nat.xor_comm q]
 ·rw [if_neg (by simp at e;omega),if_pos (by omega),if_pos (by omega),Nat.xor_zero,o,Nat.xor_self,Nat.xor_zero]
def zs:Nat->Nat->Nat
 |0,n=>n
 |k+1,n=>zst (zs k n)
theorem zs_lt {n:Nat}(h:n<4194304): ∀k,zs k n<4194304
 |0=>h
 |_+1=>aTb
theorem zs_xor {x y:Nat}(a:x<4194304)(b:y<4194304): ∀k,zs k (x^^^y)=zs k x^^^zs k y
 |0=>rfl
 |k+1=>by unfold zs;rw [zs_xor a b k,zst_xor (zs_lt a k) (zs_lt b k)]
theorem aTq (n:Nat): ∀k,zs k (zst n)=zst (zs k n)
 |0=>rfl
 |k+1=>by unfold zs;rw [aTq n k]
theorem zs_one:zs 22 1=2097167:=by decide+kernel
theorem aMy: ∀k,zs k 0=0
 |0=>rfl
 |k+1=>by unfold zs;rw [aMy k];rfl
def rC (n b:Nat):Nat:=if 4194304<=n*2+b then(n*2+b)^^^6291471 else n*2+b
theorem aTr {n b:Nat} (a:b<2):n*2+b=(n*2)^^^b:=by
 have:b=0\/b=1:=by omega
 rcases this with rfl|rfl
 ·simp
 ·apply Nat.eq_of_testBit_eq;intro i;rcases i with _|i
  ·simp [Nat.testBit_zero,Nat.xor_mod_two_eq_one]
  ·rw [Nat.testBit_xor];simp only [Nat.testBit_succ];rw [show(n*2+1)/2=n by omega,show n*2/2=n by omega];simp
theorem aBu {n b:Nat} (l:n<4194304) (a:b<2):rC n b=zst n^^^b:=by
 have o:n*2+b<8388608:=by omega
 unfold rC zst
 by_cases h:2097152<=n
 ·rw [if_pos (by omega),if_pos h,aTr a,show n*2%4194304=n*2-4194304 by omega];have e:n*2=(n*2-4194304)^^^4194304:=by
   have c:(n*2-4194304)<2^22:=by omega
   have r:n*2=2^22*1+(n*2-4194304):=by omega
   rw [Nat.xor_comm];have d:=Nat.two_pow_add_eq_or_of_lt c 1;have f:(2^22*1)&&& (n*2-4194304)=0:=by
    apply Nat.eq_of_testBit_eq;intro i;rw [Nat.testBit_and,Nat.mul_one,Nat.testBit_two_pow]
    by_cases hi:22=i
    ·subst hi;simp [Nat.testBit_lt_two_pow c]
    ·simp [hi]
   have j:(2^22*1)|||(n*2-4194304)=(2^22*1)^^^(n*2-4194304):=by
    apply Nat.eq_of_testBit_eq;intro i;have:=congrArg (λq=>q.testBit i) f;simp only [Nat.testBit_and,Nat.zero_testBit]at this;rw [Nat.testBit_or,Nat.testBit_xor]
    revert this
    generalize (2^22*1).testBit i=p;generalize (n*2-4194304).testBit i=q
    cases p<;>cases q<;>decide
   rw [j]at d;have s:4194304^^^(n*2-4194304)=4194304+(n*2-4194304):=d.symm;omega
  have k:(6291471:Nat)=4194304^^^2097167:=by decide
  rw [k];generalize hm:n*2-4194304=m at e⊢;rw [e];rw [Nat.xor_assoc m,Nat.xor_comm 4194304 b,<-Nat.xor_assoc m,Nat.xor_assoc (m^^^b),<-Nat.xor_assoc 4194304,Nat.xor_self,Nat.zero_xor,Nat.xor_assoc,Nat.xor_comm b,<-Nat.xor_assoc]
 ·rw [if_neg (by omega),if_neg h,aTr a,Nat.xor_zero,show n*2%4194304=n*2 by omega]
theorem aSw {n b:Nat}(a:n<4194304)(c:b<2):rC n b<4194304:=by
 rw [aBu a c];exact Nat.xor_lt_two_pow (n:=22) aTb (by omega)
theorem aQf {n b:Nat}(_:n<4194304)(c:b<2):nP n b=zst n^^^(if b=1 then 2097167 else 0):=by
 unfold nP zst;have:b=0\/b=1:=by omega
 by_cases h:2097152<=n<;>rcases this with rfl|rfl<;>simp [h,Nat.xor_assoc]
theorem step_22 {r b:Nat}(a:r<4194304)(c:b<2):zs 22 (rC r b)=nP (zs 22 r) b:=by
 rw [aBu a c,zs_xor aTb (by omega),aTq,aQf (zs_lt a 22) c];have:b=0\/b=1:=by omega
 rcases this with rfl|rfl
 ·rw [aMy];simp
 ·rw [zs_one];simp
def uU (f:List Nat)(i:Nat):Nat:=if i<744 then wd f (i/12)/2^(11-i%12)%2 else 0
def jC (f:List Nat):Nat->Nat
 |0=>0
 |i+1=>rC (jC f i) (uU f i)
theorem aLf (f:List Nat)(i:Nat):uU f i<2:=by unfold uU;split<;>omega
theorem aCe (f:List Nat): ∀i,jC f i<4194304
 |0=>by show 0<4194304;decide
 |i+1=>aSw (aCe f i) (aLf f i)
theorem aOx (f:List Nat)(k:Nat)(a:k<62)(h:zs 22 (jC f (12*k))=aCu f k): ∀j,j<=12->zs 22 (jC f (12*k+j))=kY (aCu f k) (wd f k) j
 |0,_=>h
 |j+1,c=>by
  have b:=aOx f k a h j (by omega);show zs 22 (rC (jC f (12*k+j)) (uU f (12*k+j)))=nP (kY (aCu f k) (wd f k) j) (wd f k/2^(11-j)%2);rw [step_22 (aCe f _) (aLf f _),b]
  congr 1
  unfold uU;rw [if_pos (by omega),show(12*k+j)/12=k by omega,show(12*k+j)%12=j by omega]
theorem aUs (f:List Nat): ∀k,k<=62->zs 22 (jC f (12*k))=aCu f k
 |0,_=>aMy 22
 |k+1,a=>aOx f k (by omega) (aUs f k (by omega)) 12 (Nat.le_refl _)
theorem aQi (f:List Nat): ∀j,jC f (744+j)=zs j (jC f 744)
 |0=>rfl
 |j+1=>by
  have a:=aQi f j;show rC (jC f (744+j)) (uU f (744+j))=zst (zs j (jC f 744));have b:uU f (744+j)=0:=by unfold uU;rw [if_neg (by omega)]
  rw [b,aBu (aCe f _) (by decide),Nat.xor_zero,a]
theorem ref_check {f:List Nat}{k:Nat}(a:k=766):jC f k=checkN f:=by
 subst a;rw [show 766=744+22 from rfl,aQi f 22,show 744=12*62 from rfl,aUs f 62 (Nat.le_refl _)];rfl
def aHv (f:List Nat):Int×Bool:=if nI (wd f 1)/\nI (wd f 2)then((wC f:Nat),true)else(0,false)
end Go.Fr1
namespace Go.Lf
open Go.RowKit Go.OB Go.Fr1
def en (g:List Nat)(h:g.length=64):Arr 64 Int:=⟨g.map λn:Nat=>(n:Int),by rw [List.length_map];exact h⟩
theorem aY {c d:Type}{body:(c->Option d)->c->Option d}(E:Nat->c)(a n:Nat)(r:Option d)(j:a<=n)(t:n<=9223372036854775807)
  (l: ∀k i,a<=i->i<n->body k (E i)=k (E (i+1)))(o: ∀k,body k (E n)=r):gY body (E a)=r:=by
 have e: ∀m b i,i+m=n->a<=i->m<b->aN body b (E i)=r:=by
  intro m
  induction m with
  |zero=>
   intro b i p f q;obtain⟨b,rfl⟩: ∃k,b=k+1:=⟨b-1,by omega⟩;have:i=n:=by omega
   subst this;exact o _
  |succ m s=>
   intro b i p f q;obtain⟨b,rfl⟩: ∃k,b=k+1:=⟨b-1,by omega⟩;show body (aN body b) (E i)=r;rw [l _ i f (by omega)];exact s b (i+1) (by omega) (by omega) (by omega)
 exact e (n-a) FU a (by omega) (Nat.le_refl _) (aHi (by omega))
theorem aS {g:List Nat}{h:g.length=64}{i:Nat}(hi:i<64):at' (en g h).l (i:Int)=some ((wd g i:Nat):Int):=by
 rw [vU];have:i<g.length:=by omega
 simp [en,wd,List.getD_eq_getElem?_getD,this]
theorem sV {p q:Prop} [Decidable p] [Decidable q] (h:p↔q):decide p=decide q:=decide_eq_decide.2 h
theorem wK {k:IntKind}{a b:Nat}(c:b<=k.bits):aAg k (a:Int) (b:Int)=some ((a/2^b:Nat):Int):=by
 unfold aAg;rw [if_pos ⟨by omega,by omega⟩];simp
theorem jY {a b:Nat}(c:b≠0):kP (a:Int) (b:Int)=some ((a%b:Nat):Int):=by
 unfold kP;rw [if_neg (by omega),Int.tmod_eq_emod_of_nonneg (by omega)];simp
theorem aUy {a b:Nat}(c:b≠0)(d:a<4611686018427387904):pJ .i64 (a:Int) (b:Int)=some ((a/b:Nat):Int):=by
 unfold pJ;have f:a/b<=a:=Nat.div_le_self _ _;have e:(a:Int)/(b:Int)=((a/b:Nat):Int):=by simp
 rw [if_neg (by omega),Int.tdiv_eq_ediv_of_nonneg (by omega),e];generalize a/b=q at *;rw [wrap_i64 (by omega) (by omega)]
theorem cnt_tab: ∀i:Fin 256,byte' [0,1,1,2,1,2,2,3,1,2,2,3,2,3,3,4,1,2,2,3,2,3,3,4,2,3,3,4,3,4,4,5,1,2,2,3,2,3,3,4,2,3,3,4,3,4,4,5,2,3,3,4,3,4,4,5,3,4,4,5,4,5,5,6,1,2,2,3,2,3,3,4,2,3,3,4,3,4,4,5,2,3,3,4,3,4,4,5,3,4,4,5,4,5,5,6,2,3,3,4,3,4,4,5,3,4,4,5,4,5,5,6,3,4,4,5,4,5,5,6,4,5,5,6,5,6,6,7,1,2,2,3,2,3,3,4,2,3,3,4,3,4,4,5,2,3,3,4,3,4,4,5,3,4,4,5,4,5,5,6,2,3,3,4,3,4,4,5,3,4,4,5,4,5,5,6,3,4,4,5,4,5,5,6,4,5,5,6,5,6,6,7,2,3,3,4,3,4,4,5,3,4,4,5,4,5,5,6,3,4,4,5,4,5,5,6,4,5,5,6,5,6,6,7,3,4,4,5,4,5,5,6,4,5,5,6,5,6,6,7,4,5,5,6,5,6,6,7,5,6,6,7,6,7,7,8] (i.val:Int)=some ((uO 8 i.val:Nat):Int):=by decide+kernel
theorem cnt_at {i:Nat}(hi:i<256):byte' [0,1,1,2,1,2,2,3,1,2,2,3,2,3,3,4,1,2,2,3,2,3,3,4,2,3,3,4,3,4,4,5,1,2,2,3,2,3,3,4,2,3,3,4,3,4,4,5,2,3,3,4,3,4,4,5,3,4,4,5,4,5,5,6,1,2,2,3,2,3,3,4,2,3,3,4,3,4,4,5,2,3,3,4,3,4,4,5,3,4,4,5,4,5,5,6,2,3,3,4,3,4,4,5,3,4,4,5,4,5,5,6,3,4,4,5,4,5,5,6,4,5,5,6,5,6,6,7,1,2,2,3,2,3,3,4,2,3,3,4,3,4,4,5,2,3,3,4,3,4,4,5,3,4,4,5,4,5,5,6,2,3,3,4,3,4,4,5,3,4,4,5,4,5,5,6,3,4,4,5,4,5,5,6,4,5,5,6,5,6,6,7,2,3,3,4,3,4,4,5,3,4,4,5,4,5,5,6,3,4,4,5,4,5,5,6,4,5,5,6,5,6,6,7,3,4,4,5,4,5,5,6,4,5,5,6,5,6,6,7,4,5,5,6,5,6,6,7,5,6,6,7,6,7,7,8] (i:Int)=some ((uO 8 i:Nat):Int):=cnt_tab ⟨i,hi⟩
theorem ones_eq {n:Nat}(f:n<65536):Fb6 (n:Int)=some ((pop n:Nat):Int):=by
 have a:=cnt_at (i:=n/256) (by omega);have c:=cnt_at (i:=n%256) (by omega);have d:aAg .u16 (n:Int) 8=some ((n/256:Nat):Int):=wK (b:=8) (by decide);have e:bits .and .u16 (n:Int) 255=((n%256:Nat):Int):=by rw [aCv (m:=256) 8 (by decide) (by decide) (by omega) (by omega)];omega
 have j:=aFv 8 (n/256);have k:=aFv 8 (n%256);have l:=pop_eq (n:=n);unfold Fb6;rw [d,zA,a,zA,zD,e,c,zA,zD,zD];generalize uO 8 (n/256)=A at *;generalize uO 8 (n%256)=B at *;rw [wrap_u8 (by omega) (by omega),wrap_i64 (by omega) (by omega)];congr 1;omega
theorem aIp {n:Nat}(a:n<65536):Fas (n:Int)=some (decide (nI n)):=by
 have q:=aFv 16 n;unfold Fas;simp only [zD,ones_eq a,zA];have e:kP ((pop n:Nat):Int) 2=some ((pop n%2:Nat):Int):=jY (b:=2) (by decide);rw [e];simp only [zA];have c:decide ((n:Int)<=4095)=decide (n<=4095):=sV (by omega);have d:decide (((pop n%2:Nat):Int)=1)=decide (aFr n):=sV (by unfold aFr;omega);have f:decide (nI n)=(decide (n<=4095)&&decide (aFr n)):=by
  rw [Bool.eq_iff_iff,Bool.and_eq_true,decide_eq_true_eq,decide_eq_true_eq,decide_eq_true_eq];exact Iff.rfl
 rw [c,d,f];generalize decide (aFr n)=z
 cases decide (n<=4095)<;>rfl
theorem aAo {x:Nat}(a:x<65536):Faf (x:Int)=some ((x%2048:Nat):Int):=by
 unfold Faf;simp only [zD];rw [aCv (m:=2048) 11 (by decide) (by decide) (by omega) (by omega),wrap_i64 (by omega) (by omega)];congr 1
section
variable {g:List Nat}{h:g.length=64}
theorem number_eq (a:Small g):Fa8 (some (en g h))=some ((wC g:Nat):Int):=by
 have b:=a 1;have c:=a 2;unfold Fa8;rw [zA,show(1:Int)=((1:Nat):Int)from rfl,aS (by decide),zA,aAo b,zA,zA,show(2:Int)=((2:Nat):Int)from rfl,aS (by decide),zA,aAo c,zA];have e:kU .i64 ((wd g 2%2048:Nat):Int) 11=some ((wd g 2%2048*2048:Nat):Int):=by
  unfold kU;rw [if_pos (by decide)]
  congr 1
  rw [show(2:Int)^(11:Int).toNat=2048 by decide,wrap_i64 (by omega) (by omega)];omega
 rw [e,zA,zD,OB.or_comm,aIc (m:=2048) 11 (by decide) (by omega) (by omega) (by omega) (by omega) (by omega) (by omega)];unfold wC
 congr 1;omega
theorem sum_eq (a:Small g):Fc6 (some (en g h))=some ((aDt g:Nat):Int):=by
 have L:Fe4 (some (en g h)) (0,0)=some ((aDt g:Nat):Int):=by
  unfold Fe4;refine aY (λi=>(((aKe g i:Nat):Int),((i:Nat):Int))) 0 60 _ (by decide) (by decide) (λk i _ _=>?_) (λk=>rfl);have b:=a (i+1);have d:=aHm g i;have c:((i:Int)+1)=((i+1:Nat):Int):=by omega
  simp only [zD];rw [show decide ((i:Int)<60)=true from dT (by omega),zO,wrap_i64 (by omega) (by omega),zA,c,aS (by omega),zA,aAo b,zA,
   aNj _ _ (by omega) (by omega)]
  rfl
 unfold Fc6;rw [L,zA]
theorem crc_bits (a:Small g) {i:Nat} (hi:i<62) (n:Nat) (b:n<4194304):Fe9 (some (en g h)) (i:Int) ((n:Int),11)=some ((kY n (wd g i) 12:Nat):Int):=by
 unfold Fe9;have t:=a i;refine aY (λj=>(((kY n (wd g i) j:Nat):Int),11-(j:Int))) 0 12 _ (by decide) (by decide) (λk j _ _=>?_) (λk=>?_)
 ·have c:=aHx (n:=n) (w:=wd g i) b j;generalize hq:kY n (wd g i) j=q at *
  have d:(11:Int)-(j:Int)=((11-j:Nat):Int):=by omega
  have e:kU .i64 (q:Int) 1=some ((q*2:Nat):Int):=by
   unfold kU;rw [if_pos (by decide)]
   congr 1
   rw [show(2:Int)^(1:Int).toNat=2 by decide,wrap_i64 (by omega) (by omega)];omega
  have f:bits .and .i64 ((q*2:Nat):Int) 4194303=((q*2%4194304:Nat):Int):=by
   rw [aDa (m:=4194304) 22 (by decide) (by decide) (by omega) (by omega)];omega
  have l:bits .and .u16 ((wd g i/2^(11-j):Nat):Int) 1=((wd g i/2^(11-j)%2:Nat):Int):=by
   have:wd g i/2^(11-j)<=wd g i:=Nat.div_le_self _ _;generalize wd g i/2^(11-j)=z at *
   rw [aCv (m:=2) 1 (by decide) (by decide) (by omega) (by omega)];omega
  simp only [zD];rw [show decide ((0:Int)<=11-(j:Int))=true from dT (by omega),zO,and_top c,e,zA,f,zA,aS (by omega),zA,d,wK (by show 11-j<=16;omega),zA,l];have o:decide ((if 2097152<=q then(2097152:Int)else 0)≠0)=decide (2097152<=q):=by split<;>simp_all
  have p:decide (((wd g i/2^(11-j)%2:Nat):Int)=1)=decide (wd g i/2^(11-j)%2=1):=sV (by omega);have r:IntKind.i64.wrap (((11-j:Nat):Int)-1)=11-((j+1:Nat):Int):=by rw [wrap_i64 (by omega) (by omega)];omega
  rw [o,p,r]
  cases hb:(!(decide (2097152<=q)==decide (wd g i/2^(11-j)%2=1)))with
  |true=>
   have s:bits .xor .i64 ((q*2%4194304:Nat):Int) 2097167=(((q*2%4194304)^^^2097167:Nat):Int):=aPx (q*2%4194304) 2097167 rfl rfl (by omega) (by decide);rw [zO,zA,s];rw [<-hq]at hb;rw [aSj hb,hq]
  |false=>
   rw [zL,zA];rw [<-hq]at hb;rw [aRx hb,hq]
 ·simp only [zD];rw [show decide ((0:Int)<=11-((12:Nat):Int))=false from by decide,zL]
theorem check_eq (a:Small g):Fcq (some (en g h))=some ((checkN g:Nat):Int):=by
 have L:Ffl (some (en g h)) (0,0)=some ((checkN g:Nat):Int):=by
  unfold Ffl;refine aY (λi=>(((aCu g i:Nat):Int),((i:Nat):Int))) 0 62 _ (by decide) (by decide) (λk i _ hi=>?_) (λk=>rfl);simp only [zD];rw [show decide ((i:Int)<62)=true from dT (by omega),zO,crc_bits a hi _ (aNu g i),zA,wrap_i64 (by omega) (by omega)];rfl
 unfold Fcq;rw [L,zA]
end
theorem aUx {k:Nat}(a:k<4):at' yM.l (k:Int)=some ((wd tab k:Nat):Int):=by
 have: ∀i:Fin 4,at' yM.l (i.val:Int)=some ((wd tab i.val:Nat):Int):=by decide+kernel
 exact this ⟨k,a⟩
theorem wide_eq {g:List Nat}{h:g.length=64}:Fby (some (en g h))=some (decide (aEu g)):=by
 unfold Fby;rw [yC];unfold Ff9
 by_cases a:aEu g
 ·rw [dT a];obtain⟨i0,e,f⟩:=a
  -- the first one
  have: ∃m,m<64/\4095<wd g m/\ ∀i,i<m-> ¬4095<wd g i:=by
   have c: ∀n,(∀i,i<n-> ¬4095<wd g i)\/ ∃m,m<n/\4095<wd g m/\ ∀i,i<m-> ¬4095<wd g i:=by
    intro n
    induction n with
    |zero=>exact .inl λi hi=>by omega
    |succ n b=>
     rcases b with b|⟨m,_,j,l⟩
     ·by_cases d:4095<wd g n
      ·exact .inr ⟨n,by omega,d,b⟩
      ·exact .inl (upto_succ b d)
     ·exact .inr ⟨m,by omega,j,l⟩
   rcases c 64 with k|k
   ·exact absurd f (k i0 e)
   ·exact k
  obtain⟨m,m1,m2,m3⟩:=this;refine aY (λi=>(i:Int)) 0 m _ (by omega) (by omega) (λk i _ hi=>?_) (λk=>?_)
  ·simp only [zD];rw [show decide ((i:Int)<64)=true from dT (by omega),zO,zA,aS (by omega),zA,show decide ((4095:Int)<((wd g i:Nat):Int))=false from qD (by have:=m3 i hi;omega),zL,wrap_i64 (by omega) (by omega)];rfl
  ·simp only [zD];rw [show decide ((m:Int)<64)=true from dT (by omega),zO,zA,aS (by omega),zA,show decide ((4095:Int)<((wd g m:Nat):Int))=true from dT (by omega),zO]
 ·rw [qD a];have o:=notwide h a;refine aY (λi=>(i:Int)) 0 64 _ (by decide) (by decide) (λk i _ hi=>?_) (λk=>rfl);simp only [zD];rw [show decide ((i:Int)<64)=true from dT (by omega),zO,zA,aS (by omega),zA,show decide ((4095:Int)<((wd g i:Nat):Int))=false from qD (by have:=o i;omega),zL,wrap_i64 (by omega) (by omega)];rfl
def aFh (g:List Nat):Prop:= ∀i,i<64->1<=i->nI (wd g i)
instance (g:List Nat):Decidable (aFh g):=by unfold aFh;exact inferInstance
def nO (g:List Nat):Prop:= ¬aEu g/\wd g 0=wd tab (wC g%4)/\wd g 61%2048=aDt g/\aFh g/\wd g 62%2048*2048+wd g 63%2048=checkN g
instance (g:List Nat):Decidable (nO g):=by unfold nO;exact inferInstance
theorem or_data {a b:Nat} (c:a<2048) (d:b<2048): ∃z,kU .i64 (a:Int) 11=some z/\bits .or .i64 z (b:Int)=((a*2048+b:Nat):Int):=by
 refine⟨((a*2048:Nat):Int),?_,?_⟩;unfold kU;rw [if_pos (by decide)];congr 1;rw [show(2:Int)^(11:Int).toNat=2048 by decide,wrap_i64 (by omega) (by omega)];omega;rw [aIc (m:=2048) 11 (by decide) (by omega) (by omega) (by omega) (by omega) (by omega) (by omega)];omega
section
variable {g:List Nat}{h:g.length=64}
theorem odds_loop (l:Small g) (k:Unit->Option Bool):Ff3 (some (en g h)) k 1=if aFh g then k ()else some false:=by
 unfold Ff3;have o: ∀n,(∀i,1<=i->i<n->nI (wd g i))\/ ∃m,1<=m/\m<n/\ ¬nI (wd g m)/\ ∀i,1<=i->i<m->nI (wd g i):=by
  intro n
  induction n with
  |zero=>exact .inl λi _ hi=>by omega
  |succ n d=>
   rcases d with d|⟨m,f,t,j,p⟩
   ·by_cases u:1<=n
    ·by_cases q:nI (wd g n)
     ·refine .inl λi r v=>?_
      by_cases e:i=n
      ·subst e;exact q
      ·exact d i r (by omega)
     ·exact .inr ⟨n,u,by omega,q,d⟩
    ·exact .inl λi r v=>by omega
   ·exact .inr ⟨m,f,by omega,j,p⟩
 rcases o 64 with s|⟨m,f,t,j,p⟩
 ·rw [if_pos (show aFh g from λi a b=>s i b a)];refine aY (λi=>(i:Int)) 1 64 _ (by decide) (by decide) (λk i c hi=>?_) (λk=>rfl);simp only [zD];rw [show decide ((i:Int)<64)=true from dT (by omega),zO,zA,aS (by omega),zA,aIp (l i),zA,dT (s i c hi),wrap_i64 (by omega) (by omega)];rfl
 ·rw [if_neg (show¬aFh g from λa=>j (a m (by omega) f))];refine aY (λi=>(i:Int)) 1 m _ f (by omega) (λk i c hi=>?_) (λk=>?_)
  ·simp only [zD];rw [show decide ((i:Int)<64)=true from dT (by omega),zO,zA,aS (by omega),zA,aIp (l i),zA,dT (p i c hi),wrap_i64 (by omega) (by omega)];rfl
  ·simp only [zD];rw [show decide ((m:Int)<64)=true from dT (by omega),zO,zA,aS (by omega),zA,aIp (l m),zA,qD j];rfl
theorem sound_eq (c:Small g):Fcf (some (en g h))=some (decide (nO g)):=by
 have e:kP ((wC g:Nat):Int) 4=some ((wC g%4:Nat):Int):=jY (b:=4) (by decide);have k:=aVf g;have a0:at' (en g h).l 0=some ((wd g 0:Nat):Int):=aS (i:=0) (by decide);have f:at' (en g h).l 61=some ((wd g 61:Nat):Int):=aS (i:=61) (by decide);have a2:at' (en g h).l 62=some ((wd g 62:Nat):Int):=aS (i:=62) (by decide);have a3:at' (en g h).l 63=some ((wd g 63:Nat):Int):=aS (i:=63) (by decide);obtain⟨_,j,z2⟩:=or_data (a:=wd g 62%2048) (b:=wd g 63%2048) (by omega) (by omega);unfold Fcf;simp only [wide_eq,zA,zD,yC,number_eq c,e,aUx (show wC g%4<4 by omega),a0,f,a2,a3,aAo (c 61),aAo (c 62),aAo (c 63),sum_eq c,check_eq c,j,z2,odds_loop c];have d1:decide (((wd g 0:Nat):Int)≠((wd tab (wC g%4):Nat):Int))= !decide (wd g 0=wd tab (wC g%4)):=by rw [Bool.eq_iff_iff];simp;omega
 have d2:decide (((wd g 61%2048:Nat):Int)≠((aDt g:Nat):Int))= !decide (wd g 61%2048=aDt g):=by rw [Bool.eq_iff_iff];simp;omega
 have d3:decide (((wd g 62%2048*2048+wd g 63%2048:Nat):Int)=((checkN g:Nat):Int))=decide (wd g 62%2048*2048+wd g 63%2048=checkN g):=sV (by omega);rw [d1,d2,d3];by_cases d:aEu g;rw [dT d,qD (show¬nO g from λq=>q.1 d)];rfl;by_cases c2:wd g 0=wd tab (wC g%4);by_cases c3:wd g 61%2048=aDt g;by_cases c4:aFh g;rw [qD d,dT c2,dT c3,if_pos c4];show some _=some _;congr 1;exact sV ⟨λq=>⟨d,c2,c3,c4,q⟩,λq=>q.2.2.2.2⟩;rw [qD d,dT c2,dT c3,if_neg c4,qD (show¬nO g from λq=>c4 q.2.2.2.1)];rfl;rw [qD d,dT c2,qD c3,qD (show¬nO g from λq=>c3 q.2.2.1)];rfl;rw [qD d,qD c2,qD (show¬nO g from λq=>c2 q.2.1)];rfl
end
section
variable {g:List Nat}{h:g.length=64}
theorem Number_eq (b:Small g):Fcn (en g h)=some ((aHv g).1,(aHv g).2):=by
 have c:at' (en g h).l 1=some ((wd g 1:Nat):Int):=aS (i:=1) (by decide);have a2:at' (en g h).l 2=some ((wd g 2:Nat):Int):=aS (i:=2) (by decide);unfold Fcn aHv;simp only [c,a2,zA,zD,aIp (b 1),aIp (b 2),number_eq b];by_cases a:nI (wd g 1);by_cases c2:nI (wd g 2);rw [dT a,dT c2,if_pos ⟨a,c2⟩];rfl;rw [dT a,qD c2,if_neg (λq=>c2 q.2)];rfl;rw [qD a,if_neg (λq=>a q.1)];rfl
end
def flW (g:List Nat):Nat->List aZ
 |0=>[]
 |k+1=>if 4095<wd g k then flW g k++[⟨(k:Nat),5⟩]else flW g k
def flO (l:List aZ)(g:List Nat):Nat->List aZ
 |0=>l
 |k+1=>if nI (wd g (k+1))then flO l g k else flO l g k++[⟨((k+1:Nat):Int),2⟩]
theorem aUo (g:List Nat): ∀k,(flW g k).length<=k
 |0=>by simp [flW]
 |k+1=>by have:=aUo g k;unfold flW;split<;>simp<;>omega
theorem aMk (l:List aZ)(g:List Nat): ∀k,(flO l g k).length<=l.length+k
 |0=>by simp [flO]
 |k+1=>by have:=aMk l g k;unfold flO;split<;>simp<;>omega
theorem aMa (g:List Nat): ∀k,flW g k=[]↔ ∀i,i<k-> ¬4095<wd g i
 |0=>by simp [flW]
 |k+1=>by
  have a:=aMa g k;unfold flW;constructor
  ·intro h;split at h
   ·simp at h
   ·rename_i c;exact upto_succ (a.1 h) c
  ·intro h;rw [if_neg (h k (by omega))];exact a.2 λi _=>h i (by omega)
theorem aUz (g:List Nat): ∀k,flO [] g k=[]↔ ∀i,1<=i->i<k+1->nI (wd g i)
 |0=>by simp [flO];omega
 |k+1=>by
  have b:=aUz g k;unfold flO;constructor
  ·intro h;split at h
   ·rename_i c;intro i a d
    by_cases e:i=k+1
    ·subst e;exact c
    ·exact b.1 h i a (by omega)
   ·simp at h
  ·intro h;rw [if_pos (h (k+1) (by omega) (by omega))];exact b.2 λi a d=>h i a (by omega)
def flS (g:List Nat):List aZ:=if wd g 0=wd tab (wC g%4)then []else [⟨0,1⟩]
def flP (g:List Nat):List aZ:=flO (flS g) g 63
def flT (g:List Nat):List aZ:=if wd g 61%2048=aDt g then flP g else flP g++[⟨61,3⟩]
def flC (g:List Nat):List aZ:=if wd g 62%2048*2048+wd g 63%2048=checkN g then flT g else flT g++[⟨62,4⟩]
def aLm (g:List Nat):List aZ:=if flW g 64=[]then flC g else flW g 64
theorem aUj (g:List Nat):(flS g).length<=1:=by unfold flS;split<;>simp
theorem aTo (g:List Nat):(flP g).length<=64:=by have:=aMk (flS g) g 63;have:=aUj g;unfold flP;omega
theorem flT_len (g:List Nat):(flT g).length<=65:=by have:=aTo g;unfold flT;split<;>simp<;>omega
theorem aQz (g:List Nat):aLm g=[]↔nO g:=by
 have f:flW g 64=[]↔ ¬aEu g:=by
  rw [aMa];exact⟨λh ⟨i,d,e⟩=>h i d e,λh i d e=>h ⟨i,d,e⟩⟩
 have j:flO [] g 63=[]↔aFh g:=by
  rw [aUz];exact⟨λh i a b=>h i b a,λh i a b=>h i b a⟩
 have m: ∀(l:List aZ) k,flO l g k=[]->l=[]:=by
  intro l k
  induction k with
  |zero=>exact id
  |succ k n=>
   intro h;unfold flO at h;split at h
   ·exact n h
   ·simp at h
 unfold aLm;constructor
 ·intro h;split at h
  ·rename_i c;unfold flC at h;split at h
   ·rename_i c5;unfold flT at h;split at h
    ·rename_i c3;unfold flP at h;have d:=m _ _ h;unfold flS at d;split at d
     ·rename_i c2;unfold flS at h;rw [if_pos c2]at h;exact⟨f.1 c,c2,c3,j.1 h,c5⟩
     ·simp at d
    ·simp at h
   ·simp at h
  ·rename_i c;exact absurd h c
 ·rintro⟨o,c2,c3,c4,c5⟩;rw [if_pos (f.2 o)];unfold flC flT flP flS;rw [if_pos c5,if_pos c3,if_pos c2];exact j.2 c4
theorem aOs {l:List aZ}(x:aZ)(h:l.length<=200):app' 16 l [x]=some (l++[x]):=by
 unfold app';rw [if_pos];rw [maxLen_eq];simp;omega
theorem rflaws_L1 {g:List Nat}{h:g.length=64}:Ffg (en g h) ([],0)=some (flW g 64):=by
 unfold Ffg;refine aY (λi=>(flW g i,(i:Int))) 0 64 _ (by decide) (by decide) (λk i _ _=>?_) (λk=>rfl);have:=aUo g i;simp only [zD];rw [show decide ((i:Int)<64)=true from dT (by omega),zO,aS (by omega),zA,aOs _ (by omega),wrap_i64 (by omega) (by omega)];by_cases c:4095<wd g i;rw [show decide ((4095:Int)<((wd g i:Nat):Int))=true from dT (by omega),zO,zA,zA,show flW g (i+1)=flW g i++[⟨(i:Nat),5⟩]from if_pos c];rfl;rw [show decide ((4095:Int)<((wd g i:Nat):Int))=false from qD (by omega),zL,zA,show flW g (i+1)=flW g i from if_neg c];rfl
theorem rsync_eq {n:Nat}:Ff2 (n:Int)=some ((wd tab (n%4):Nat):Int):=by
 have a:kP (n:Int) 4=some ((n%4:Nat):Int):=jY (b:=4) (by decide);unfold Ff2;rw [a,zA];have:=aUx (k:=n%4) (by omega);rw [show(⟨[583,1464,2631,3512],rfl⟩:Arr 4 Int)=yM from rfl,this,zA]
theorem aUa {n:Nat} (o:n<65536):Fbz (n:Int)=some (decide (aFr n)):=by
 have p:Fc8 ((n:Int),0)=some ((pop n:Nat):Int):=by
  have i: ∀(B:(Int×Int->Option Int)->Int×Int->Option Int),(∀k (a b:Int),B k (a,b)=gI (decide (0<a)) (gB (kP a 2) λx=>gB (pJ .i64 a 2) λy=>k (y,IntKind.i64.wrap (b+x))) (some b))->
    ∀(f m c d:Nat),m<2^f->f<=16->c+f<=16->f<d->aN B d ((m:Int),(c:Int))=some (((c+uO f m:Nat):Int)):=by
   intro B l f
   induction f with
   |zero=>
    intro m c d j _ _ q;obtain⟨d,rfl⟩: ∃k,d=k+1:=⟨d-1,by omega⟩;have:m=0:=by omega
    subst this;rw [aN,l];rfl
   |succ f r=>
    intro m c d j s _ q;obtain⟨d,rfl⟩: ∃k,d=k+1:=⟨d-1,by omega⟩;rw [aN,l]
    by_cases t:m=0
    ·subst t;rw [aJm];rfl
    ·have u:kP (m:Int) 2=some ((m%2:Nat):Int):=jY (b:=2) (by decide);have hm:m<65536:=Nat.lt_of_lt_of_le j (Nat.pow_le_pow_right (n:=2) (by decide) s);have v:pJ .i64 (m:Int) 2=some ((m/2:Nat):Int):=aUy (b:=2) (by decide) (by omega);rw [show decide (0<(m:Int))=true from dT (by omega),zO,u,zA,v,zA,wrap_i64 (by omega) (by omega),show((c:Int)+((m%2:Nat):Int))=((c+m%2:Nat):Int)by omega];rw [r (m/2) (c+m%2) d (by rw [Nat.pow_succ]at j;omega) (by omega) (by omega) (by omega),uO]
     congr 2;omega
  have e: ∀B:(Int×Int->Option Int)->Int×Int->Option Int,gY B ((n:Int),0)=aN B FU ((n:Int),((0:Nat):Int)):=λB=>rfl
  unfold Fc8;rw [e,i _ (λk a b=>rfl) 16 n 0 FU o (by decide) (by decide) (by unfold FU;omega),Nat.zero_add];rfl
 unfold Fbz;rw [p,zA];have e:kP ((pop n:Nat):Int) 2=some ((pop n%2:Nat):Int):=jY (b:=2) (by decide);rw [e,zA,zD];refine congrArg some (sV ?_);unfold aFr;generalize pop n%2=z;omega
section
variable {g:List Nat}{h:g.length=64}
theorem rsum_eq (a:Small g):Fev (en g h)=some ((aDt g:Nat):Int):=by
 have L:Ffu (en g h) (0,1)=some ((aDt g:Nat):Int):=by
  unfold Ffu;refine aY (λi=>(((aKe g i:Nat):Int),((i+1:Nat):Int))) 0 60 _ (by decide) (by decide) (λk i _ _=>?_) (λk=>rfl);have c:=a (i+1);have d:=aHm g i;have e:kP ((wd g (i+1):Nat):Int) 2048=some ((wd g (i+1)%2048:Nat):Int):=jY (b:=2048) (by decide);simp only [zD];rw [show decide (((i+1:Nat):Int)<=60)=true from dT (by omega),zO,aS (by omega),zA,wrap_i64 (by omega) (by omega),e,zA,
   aNj _ _ (by omega) (by omega),wrap_i64 (by omega) (by omega)]
  rfl
 unfold Fev;rw [L,zA]
theorem rcheck_eq (p:Small g):Few (en g h)=some ((checkN g:Nat):Int):=by
 have L:Feo (en g h) (0,0)=some ((checkN g:Nat):Int):=by
  unfold Feo;rw [<-ref_check (f:=g) (k:=766) rfl];refine aY (λi=>(((jC g i:Nat):Int),((i:Nat):Int))) 0 766 _ (by decide) (by decide) (λk i _ _=>?_) (λk=>rfl);have u:=aCe g i;have q:=aLf g i;have v:=p (i/12);simp only [zD];rw [show decide ((i:Int)<766)=true from dT (by omega),zO];have a:(gI (decide ((i:Int)<744)) (gB (pJ .i64 (i:Int) 12) λd=>gB (at' (en g h).l d) λe=>gB (kP (i:Int) 12) λj=>gB (aAg .i64 (IntKind.i64.wrap e) (IntKind.i64.wrap (11-j))) λo=>some (bits .and .i64 o 1)) (some 0))=some ((uU g i:Nat):Int):=by
   unfold uU
   by_cases c:i<744
   ·rw [show decide ((i:Int)<744)=true from dT (by omega),zO,if_pos c];have r:pJ .i64 (i:Int) 12=some ((i/12:Nat):Int):=aUy (b:=12) (by decide) (by omega);have s:kP (i:Int) 12=some ((i%12:Nat):Int):=jY (b:=12) (by decide);rw [r,zA,aS (by omega),zA,s,zA,wrap_i64 (by omega) (by omega),wrap_i64 (by omega) (by omega),show(11:Int)-((i%12:Nat):Int)=((11-i%12:Nat):Int)by omega,
     wK (b:=11-i%12) (by show 11-i%12<=64;omega),zA]
    have:wd g (i/12)/2^(11-i%12)<=wd g (i/12):=Nat.div_le_self _ _;generalize wd g (i/12)/2^(11-i%12)=z at *
    rw [aDa (m:=2) 1 (by decide) (by decide) (by omega) (by omega)]
    congr 1
   ·rw [show decide ((i:Int)<744)=false from qD (by omega),zL,if_neg c];rfl
  rw [a,zA,wrap_i64 (n:=((jC g i:Nat):Int)*2) (by omega) (by omega),wrap_i64 (n:=((jC g i:Nat):Int)*2+((uU g i:Nat):Int)) (by omega) (by omega),wrap_i64 (n:=(i:Int)+1) (by omega) (by omega)];show gB _ _=k (((rC (jC g i) (uU g i):Nat):Int),_);rw [show((jC g i:Nat):Int)*2+((uU g i:Nat):Int)=((jC g i*2+uU g i:Nat):Int)by omega];unfold rC
  by_cases c:4194304<=jC g i*2+uU g i
  ·rw [show decide ((4194304:Int)<=((jC g i*2+uU g i:Nat):Int))=true from dT (by omega),zO,zA];have t:bits .xor .i64 ((jC g i*2+uU g i:Nat):Int) 6291471=(((jC g i*2+uU g i)^^^6291471:Nat):Int):=aPx (jC g i*2+uU g i) 6291471 rfl rfl (by omega) (by decide);rw [t,if_pos c];rfl
  ·rw [show decide ((4194304:Int)<=((jC g i*2+uU g i:Nat):Int))=false from qD (by omega),zL,zA,if_neg c];rfl
 unfold Few;rw [L,zA]
theorem aHy (a:Small g):Fcb (en g h)=some ((wC g:Nat):Int):=by
 have j:=a 1;have k:=a 2;have c:at' (en g h).l 1=some ((wd g 1:Nat):Int):=aS (i:=1) (by decide);have a2:at' (en g h).l 2=some ((wd g 2:Nat):Int):=aS (i:=2) (by decide);have d:kP ((wd g 1:Nat):Int) 2048=some ((wd g 1%2048:Nat):Int):=jY (b:=2048) (by decide);have e:kP ((wd g 2:Nat):Int) 2048=some ((wd g 2%2048:Nat):Int):=jY (b:=2048) (by decide);unfold Fcb;simp only [zD];have f:IntKind.i64.wrap (((wd g 2%2048:Nat):Int)*2048)=((wd g 2%2048*2048:Nat):Int):=by rw [wrap_i64 (by omega) (by omega)];omega
 rw [c,zA,wrap_i64 (by omega) (by omega),d,zA,a2,zA,wrap_i64 (by omega) (by omega),e,zA,f,wrap_i64 (by omega) (by omega)];unfold wC;congr 1
theorem rflaws_L2 (a:Small g) {l:List aZ} (e:l.length<=1) (b:flW g 64=[]):Fdx (en g h) (l,1)=some (flO l g 63):=by
 unfold Fdx;refine(aY (λi=>(flO l g i,((i+1:Nat):Int))) 0 63 (some (flO l g 63)) (by decide) (by decide) (λk i _ _=>?_) (λk=>rfl));have:=aMk l g i;have f:=a (i+1);have j:=(aMa g 64).1 b (i+1) (by omega);simp only [zD];rw [show decide (((i+1:Nat):Int)<64)=true from dT (by omega),zO,aS (by omega),zA,wrap_i64 (by omega) (by omega),aUa (a _),zA,aOs _ (by omega),wrap_i64 (by omega) (by omega)];by_cases c:nI (wd g (i+1));rw [dT c.2,show flO l g (i+1)=flO l g i from if_pos c];rfl;have d: ¬aFr (wd g (i+1)):=λq=>c ⟨by omega,q⟩;rw [qD d,show flO l g (i+1)=flO l g i++[⟨((i+1:Nat):Int),2⟩]from if_neg c];rfl
theorem rFlaws_eq (a:Small g):Ffs (en g h)=some (aLm g):=by
 have q:=aVf g;have r:=a 0;have k:=a 61;have m:=a 62;have n:=a 63;have a0:at' (en g h).l 0=some ((wd g 0:Nat):Int):=aS (i:=0) (by decide);have o:at' (en g h).l 61=some ((wd g 61:Nat):Int):=aS (i:=61) (by decide);have a2:at' (en g h).l 62=some ((wd g 62:Nat):Int):=aS (i:=62) (by decide);have a3:at' (en g h).l 63=some ((wd g 63:Nat):Int):=aS (i:=63) (by decide);have d:kP ((wd g 61:Nat):Int) 2048=some ((wd g 61%2048:Nat):Int):=jY (b:=2048) (by decide);have e:kP ((wd g 62:Nat):Int) 2048=some ((wd g 62%2048:Nat):Int):=jY (b:=2048) (by decide);have f:kP ((wd g 63:Nat):Int) 2048=some ((wd g 63%2048:Nat):Int):=jY (b:=2048) (by decide);have d1:decide (((wd g 0:Nat):Int)≠((wd tab (wC g%4):Nat):Int))= !decide (wd g 0=wd tab (wC g%4)):=by rw [Bool.eq_iff_iff];simp;omega
 have d2:decide (((wd g 61%2048:Nat):Int)≠((aDt g:Nat):Int))= !decide (wd g 61%2048=aDt g):=by rw [Bool.eq_iff_iff];simp;omega
 have d3:decide ((((wd g 62%2048:Nat):Int)*2048+((wd g 63%2048:Nat):Int))≠((checkN g:Nat):Int))= !decide (wd g 62%2048*2048+wd g 63%2048=checkN g):=by rw [Bool.eq_iff_iff];simp;omega
 unfold Ffs aLm;rw [rflaws_L1,zA,zD,zD]
 by_cases c:flW g 64=[]
 ·rw [if_pos c,c];rw [show decide (0<(([]:List aZ).length:Int))=false from rfl,zL,a0,zA];simp only [zD];rw [wrap_i64 (by omega) (by omega),aHy a,zA,rsync_eq,zA,d1];have p:(gI (!decide (wd g 0=wd tab (wC g%4))) (gB (app' 16 [] [(⟨0,1⟩:aZ)]) λx=>some x) (some []))=some (flS g):=by
   rw [aOs _ (by simp)];unfold flS
   by_cases c2:wd g 0=wd tab (wC g%4)
   ·rw [dT c2,if_pos c2];rfl
   ·rw [qD c2,if_neg c2];rfl
  rw [p,zA,rflaws_L2 a (aUj g) c,zA,o,zA,wrap_i64 (by omega) (by omega),d,zA,rsum_eq a,zA,d2];have j:(gI (!decide (wd g 61%2048=aDt g)) (gB (app' 16 (flP g) [(⟨61,3⟩:aZ)]) λx=>some x) (some (flP g)))=some (flT g):=by
   have:=aTo g;rw [aOs _ (by omega)];unfold flT
   by_cases c2:wd g 61%2048=aDt g
   ·rw [dT c2,if_pos c2];rfl
   ·rw [qD c2,if_neg c2];rfl
  unfold flP at j;rw [j,zA,a2,zA,wrap_i64 (by omega) (by omega),e,zA,a3,zA,wrap_i64 (by omega) (by omega),wrap_i64 (by omega) (by omega),f,zA,wrap_i64 (by omega) (by omega),rcheck_eq a,zA,d3];have:=flT_len g;rw [aOs _ (by omega)];unfold flC
  by_cases c2:wd g 62%2048*2048+wd g 63%2048=checkN g
  ·rw [dT c2,if_pos c2];rfl
  ·rw [qD c2,if_neg c2];rfl
 ·rw [if_neg c,show decide (0<((flW g 64).length:Int))=true from dT (by have:=List.length_pos_iff.2 c;omega),zO]
theorem rSound_eq (a:Small g):Ff4 (en g h)=some (decide (nO g)):=by
 unfold Ff4;rw [rFlaws_eq a,zA];simp only [zD];congr 1;refine sV ?_;rw [<-aQz];constructor;intro h;exact List.eq_nil_of_length_eq_zero (by omega);intro h;rw [h];rfl
end
theorem aPq {n:Nat}(a:n<65536):Fbr (n:Int)=some (decide (nI n)):=by
 unfold Fbr;simp only [zD];rw [wrap_i64 (by omega) (by omega),aUa a,zA];have b:decide ((n:Int)<=4095)=decide (n<=4095):=sV (by omega);have c:decide (nI n)=(decide (n<=4095)&&decide (aFr n)):=by
  rw [Bool.eq_iff_iff,Bool.and_eq_true,decide_eq_true_eq,decide_eq_true_eq,decide_eq_true_eq];exact Iff.rfl
 rw [b,c];generalize decide (aFr n)=z
 cases decide (n<=4095)<;>rfl
section
variable {g:List Nat}{h:g.length=64}
theorem aSs (b:Small g):Fdu (en g h)=some ((aHv g).1,(aHv g).2):=by
 have c:at' (en g h).l 1=some ((wd g 1:Nat):Int):=aS (i:=1) (by decide);have a2:at' (en g h).l 2=some ((wd g 2:Nat):Int):=aS (i:=2) (by decide);unfold Fdu aHv;simp only [c,a2,zA,zD,aPq (b 1),aPq (b 2),aHy b];by_cases a:nI (wd g 1);by_cases c2:nI (wd g 2);rw [dT a,dT c2,if_pos ⟨a,c2⟩];rfl;rw [dT a,qD c2,if_neg (λq=>c2 q.2)];rfl;rw [qD a,if_neg (λq=>a q.1)];rfl
end
end Go.Lf
