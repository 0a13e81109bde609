/- Laws that the claim stands on; no condition beyond those stated. -/
import Derived.Test.YtibkjjklfhfipaaGreatTEb
namespace Go.Lf
open Go.OB
def jP:List Int->Int
 | []=>0
 |x::l=>x+jP l
theorem aNi: ∀(a b:List Int),jP (a++b)=jP a+jP b
 | [],b=>by simp [jP]
 |x::a,b=>by rw [List.cons_append,jP,jP,aNi a b];omega
theorem bBa {B:Int}: ∀{l:List Int},(∀x∈l,0<=x/\x<=B)->0<=jP l/\jP l<=(l.length:Int)*B
 | [],_=>by simp [jP]
 |x::l,h=>by
  have b:=bBa (l:=l) λy a=>h y (List.mem_cons_of_mem _ a)
  have c:=h x List.mem_cons_self;have e:((x::l).length:Int)*B=(l.length:Int)*B+B:=by
   rw [List.length_cons,Int.natCast_add,Int.add_mul];simp
  rw [e];show 0<=x+jP l/\x+jP l<=_;omega
theorem sumI_rev (l:List Int):jP l.reverse=jP l:=by
 induction l with
 |nil=>rfl
 |cons x l a=>
  rw [List.reverse_cons,aNi,a];show jP l+(x+0)=x+jP l;omega
theorem aXm {a b A B:Int}(d:0<=a/\a<=A)(c:0<=b/\b<=B):0<=a*b/\a*b<=A*B:=
 ⟨Int.mul_nonneg d.1 c.1,Int.mul_le_mul d.2 c.2 c.1 (by omega)⟩
theorem bDf (a:Int){b:Type}(d:b->Int): ∀l:List b,0<=(l.length:Int)*(a*a)-2*(a*jP (l.map d))+jP (l.map λf=>d f*d f)
 | []=>by simp [jP]
 |x::l=>by
  have i:=bDf a d l;have h:0<=(a-d x)*(a-d x):=by
   rcases Int.le_total 0 (a-d x)with h|h
   ·exact Int.mul_nonneg h h
   ·exact Int.mul_nonneg_of_nonpos_of_nonpos h h
  have e:(a-d x)*(a-d x)=a*a-2*(a*d x)+d x*d x:=by grind
  rw [List.map_cons,List.map_cons,List.length_cons];show 0<=_-2*(a*(d x+jP (l.map d)))+(d x*d x+jP (l.map λf=>d f*d f));rw [e]at h;have c:((l.length+1:Nat):Int)*(a*a)=(l.length:Int)*(a*a)+a*a:=by rw [Int.natCast_add,Int.add_mul];simp
  rw [c,Int.mul_add];omega
theorem cauchy {b:Type}(d:b->Int): ∀l:List b,0<=(l.length:Int)*jP (l.map λf=>d f*d f)-jP (l.map d)*jP (l.map d)
 | []=>by simp [jP]
 |x::l=>by
  have e:=cauchy d l;have h:=bDf (d x) d l;rw [List.map_cons,List.map_cons,List.length_cons];show 0<=_*(d x*d x+jP (l.map λf=>d f*d f))-(d x+jP (l.map d))*(d x+jP (l.map d));generalize jP (l.map λf=>d f*d f)=Q at *
  generalize jP (l.map d)=S at *
  generalize d x=a at *
  have c:((l.length+1:Nat):Int)*(a*a+Q)-(a+S)*(a+S)=((l.length:Int)*Q-S*S)+((l.length:Int)*(a*a)-2*(a*S)+Q):=by
   rw [Int.natCast_add]
   grind
  rw [c];omega
def gB:(Int×Int->Option Int)->Int×Int->Option Int:=λk ⟨b,a⟩=>
 gJ (decide (a≠0)) λc=>
 gQ c
 (gG (qN b a) λd=>
 k (a,d))
 (some b)
theorem gB1:Fhw=fB gB:=rfl
theorem gB2:Fh5=fB gB:=rfl
theorem aVz: ∀(n a b:Nat),b<n->eQ gB n ((a:Int),(b:Int))=some ((Nat.gcd a b:Nat):Int)
 |0,_,_,h=>absurd h (Nat.not_lt_zero _)
 |n+1,a,b,h=>by
  rw [eQ];unfold gB;simp only [zD]
  by_cases c:b=0
  ·subst c;rw [qD (by simp),zN,Nat.gcd_zero_right]
  ·have c':(b:Int)≠0:=by omega
   have d:qN (a:Int) (b:Int)=some ((a%b:Nat):Int):=by
    unfold qN;rw [if_neg c',Int.tmod_eq_emod_of_nonneg (by omega),Int.natCast_emod]
   rw [dT c',zT,d,zB];have f:a%b<b:=Nat.mod_lt _ (by omega);have e:Nat.gcd a b=Nat.gcd b (a%b):=by rw [Nat.gcd_comm a b,Nat.gcd_rec b a,Nat.gcd_comm]
   rw [e];exact aVz n b (a%b) (by omega)
theorem gcdO (a b:Nat)(h:b<=9223372036854775807):fB gB ((a:Int),(b:Int))=some ((Nat.gcd a b:Nat):Int):=aVz FU a b (jF h)
theorem aTc (x:Int):max x (-x)=(x.natAbs:Int):=by omega
theorem w64 {a:Int}(b:0<=a)(h:a<18446744073709551616):IntKind.u64.wrap a=a:=by rw [IntKind.wrap_u64];omega
theorem wk_i64: ∀z:Int,0<=z->z<=9223372036854775807->IntKind.i64.wrap z=z:=λz _ a=>Go.OB.wrap_i64 (by omega) a
theorem wk_u64: ∀z:Int,0<=z->z<=9223372036854775807->IntKind.u64.wrap z=z:=λz a _=>w64 a (by omega)
theorem aSv {k:IntKind}(c: ∀z:Int,0<=z->z<=9223372036854775807->k.wrap z=z){a b:Nat}(h:1<=b)(i:a<=9223372036854775807):tY k (a:Int) (b:Int)=some ((a/b:Nat):Int):=by
 unfold tY;have d:=Nat.div_le_self a b;have e:Int.tdiv (a:Int) (b:Int)=((a/b:Nat):Int):=by rw [Int.tdiv_eq_ediv_of_nonneg (by omega),Int.natCast_ediv]
 have f:k.wrap ((a/b:Nat):Int)=((a/b:Nat):Int):=by
  generalize a/b=q at d;exact c _ (by omega) (by omega)
 rw [if_neg (by omega),e,f]
theorem rem_nat {a b:Nat}(c:1<=b):qN (a:Int) (b:Int)=some ((a%b:Nat):Int):=by
 unfold qN;rw [if_neg (by omega),Int.tmod_eq_emod_of_nonneg (by omega),Int.natCast_emod]
theorem div64 {a b:Nat}(c:1<=b)(h:a<=9223372036854775807):Fb8 0 (a:Int) (b:Int)=some (((a/b:Nat):Int),((a%b:Nat):Int)):=by
 unfold Fb8;simp only [zD];rw [qD (by omega),zN,qD (by omega),zN,decide_true,zT,aSv wk_u64 c h,zB,rem_nat c,zB]
theorem aMj {a:Nat}(h:a<18446744073709551616):bits .and .u64 (a:Int) 4294967295=((a%4294967296:Nat):Int):=by
 have e:(4294967295:Int)=2^32-1:=by decide
 have q:=bits_mask .u64 64 (by decide) wrapn_u64 32 (by decide) (a:Int) (by omega) (by omega);rw [e,q];have:(2:Int)^32=4294967296:=by decide
 rw [this,Int.natCast_emod];rfl
theorem aFa {a:Nat}:aDs .u64 (a:Int) 32=some ((a/4294967296:Nat):Int):=by
 unfold aDs;rw [if_pos (by decide)];have:(2:Int)^(32:Int).toNat=4294967296:=by decide
 rw [this,Int.natCast_ediv];rfl
theorem mul64 (a b:Nat)(f:b<4294967296)(h:a*b<18446744073709551616)(j:a<18446744073709551616):Fam (a:Int) (b:Int)=some (0,((a*b:Nat):Int)):=by
 unfold Fam;have k:b/4294967296=0:=Nat.div_eq_of_lt f;have l:b%4294967296=b:=Nat.mod_eq_of_lt f;have c:a=4294967296*(a/4294967296)+a%4294967296:=(Nat.div_add_mod a 4294967296).symm;have i:a*b=4294967296*(a/4294967296*b)+a%4294967296*b:=by
  conv=>lhs;rw [c]
  rw [Nat.add_mul,Nat.mul_assoc]
 generalize hu:a/4294967296*b=u at i;generalize hv:a%4294967296*b=v at i;have n:((a%4294967296:Nat):Int)*(b:Int)=(v:Int):=by rw [<-hv,Int.natCast_mul]
 have o:((a/4294967296:Nat):Int)*(b:Int)=(u:Int):=by rw [<-hu,Int.natCast_mul]
 have p:(a:Int)*(b:Int)=((a*b:Nat):Int):=by rw [Int.natCast_mul]
 have q:((a%4294967296:Nat):Int)*((0:Nat):Int)=0:=by simp
 have z2:((a/4294967296:Nat):Int)*((0:Nat):Int)=0:=by simp
 simp only [zD];rw [aMj j,aFa,zB,aMj (by omega),l,aFa,zB,k,n,o,p,q,z2,w64 (by omega) (by omega),w64 (by omega) (by omega)];rw [show aDs .u64 ((v:Nat):Int) 32=some ((v/4294967296:Nat):Int)from aFa,zB];have r:(u:Int)+((v/4294967296:Nat):Int)=((u+v/4294967296:Nat):Int):=by omega
 have e:u+v/4294967296<4294967296:=by omega
 rw [r,w64 (by omega) (by omega),aMj (by omega),aFa,zB,Nat.div_eq_of_lt e,Nat.mod_eq_of_lt e];have s:IntKind.u64.wrap 0=0:=w64 (by omega) (by omega);rw [s,Int.add_zero,w64 (by omega) (by omega),aFa,zB,Nat.div_eq_of_lt e,Int.zero_add];have d:IntKind.u64.wrap ((0:Nat):Int)=0:=w64 (by omega) (by omega);rw [d,Int.zero_add,d,w64 (by omega) (by omega)]
theorem mul_one64 {a:Nat}(b:a<18446744073709551616):Fam (a:Int) 1=some (0,(a:Int)):=by
 have:=mul64 a 1 (by decide) (by omega) b;rwa [Nat.mul_one]at this
def rT (x:Int)(D:Nat):Ratio:=Ratio.mk (x.tdiv ((Nat.gcd x.natAbs D:Nat):Int)) ((D/Nat.gcd x.natAbs D:Nat):Int)
theorem quo_i {x:Int}{g:Nat}(b:1<=g)(h:x.natAbs<=1000000000000000000):tY .i64 x (g:Int)=some (x.tdiv (g:Int)):=by
 have a:(x.tdiv (g:Int)).natAbs<=x.natAbs:=by rw [Int.natAbs_tdiv];exact Nat.div_le_self _ _
 unfold tY;rw [if_neg (by omega)];generalize x.tdiv (g:Int)=T at a;rw [Go.OB.wrap_i64 (by omega) (by omega)]
theorem fleet_rT {x:Int}{D:Nat}(e:1<=D)(f:D<=1000000000000000000)(d:x.natAbs<=1000000000000000000):
  (gG (Fb2 x (D:Int)) λg=>gG (tY .i64 x g) λa=>gG (tY .i64 (D:Int) g) λb=>some (Ratio.mk a b,(0:Int)))=some (rT x D,0):=by
 obtain⟨g,c⟩: ∃g,Nat.gcd x.natAbs D=g:=⟨_,rfl⟩;have g1:1<=g:=by rw [<-c];exact Nat.gcd_pos_of_pos_right _ (by omega)
 have hd:Fb2 x (D:Int)=some (g:Int):=by
  unfold Fb2;simp only [zD];have f1:IntKind.i64.wrap (-x)= -x:=Go.OB.wrap_i64 (by omega) (by omega);have f2:IntKind.i64.wrap (-(D:Int))= -(D:Int):=Go.OB.wrap_i64 (by omega) (by omega);rw [f1,f2,aTc,aTc,Int.natAbs_natCast,gB1,gcdO _ _ (by omega),c,zB]
 unfold rT;rw [hd,zB,quo_i g1 d,zB,aSv wk_i64 g1 (by omega),zB,c]
theorem ref_rT {x:Int}{D:Nat} (k:1<=D) (v:D<=1000000000000000000) (y:x.natAbs<=1000000000000000000):
  (gG (Fb4 x 1) λw=>gG (Fca w (D:Int)) λ⟨a,b⟩=>some (a,b))=some (rT x D,(0:Int)):=by
 obtain⟨S,i⟩: ∃S:Nat,x.natAbs=S:=⟨_,rfl⟩;have l:Fb4 x 1=some (dB.mk (decide (x<0)) 0 (S:Int)):=by
  unfold Fb4;simp only [zD];have n:IntKind.u64.wrap (max 1 (IntKind.i64.wrap (-1)))=1:=by decide
  have o:(!(decide (x<0)==decide ((1:Int)<0)))=decide (x<0):=by cases decide (x<0)<;>rfl
  rw [Go.OB.wrap_i64 (by omega) (by omega),aTc,i,w64 (by omega) (by omega),n,mul_one64 (by omega),zB,o]
 obtain⟨g,d⟩: ∃g,Nat.gcd S D=g:=⟨_,rfl⟩;have g1:1<=g:=by rw [<-d];exact Nat.gcd_pos_of_pos_right _ (by omega)
 have p:Fdg (dB.mk (decide (x<0)) 0 (S:Int)) (D:Int)=some (rT x D,true):=by
  unfold Fdg rT;simp only [zD,decide_true,zT,zB];rw [i,d]
  by_cases c:S=0
  ·subst c;have:g=D:=by rw [Nat.gcd_zero_left]at d;exact d.symm
   have f:x=0:=by omega
   rw [show decide (((0:Nat):Int)=0)=true from rfl,zT,this,Nat.div_self (by omega),f,Int.zero_tdiv];rfl
  ·have q:qN 0 (D:Int)=some 0:=by unfold qN;rw [if_neg (by omega)];rfl
   have z2:qN 0 (g:Int)=some 0:=by unfold qN;rw [if_neg (by omega)];rfl
   have z3:tY .u64 0 (g:Int)=some 0:=by
    unfold tY;rw [if_neg (by omega),Int.zero_tdiv,w64 (by omega) (by omega)]
   have r:S/g<=S:=Nat.div_le_self _ _;have s:D/g<=D:=Nat.div_le_self _ _;have j:S%D<D:=Nat.mod_lt _ (by omega);have t:Nat.gcd D (S%D)=g:=by rw [Nat.gcd_comm,<-Nat.gcd_rec,Nat.gcd_comm];exact d
   rw [qD (show¬(S:Int)=0 by omega),zN,q,zB,div64 k (by omega),zB];simp only [];rw [gB2,gcdO _ _ (by omega),t,zB,z3,zB,z2,zB,div64 g1 (by omega),zB];simp only [];rw [aSv wk_u64 g1 (by omega),zB,qD (show¬(0:Int)≠0 from λh=>h rfl),zN];have u:(if decide (x<0)=true then-((S/g:Nat):Int)else((S/g:Nat):Int))=x.tdiv (g:Int):=by
    by_cases c3:x<0
    ·rw [if_pos (dT c3)];have e:x= -(S:Int):=by omega
     conv=>rhs;rw [e]
     rw [Int.neg_tdiv,Int.tdiv_eq_ediv_of_nonneg (by omega),Int.natCast_ediv]
    ·rw [if_neg (by simpa using c3)];have e:x=(S:Int):=by omega
     conv=>rhs;rw [e]
     rw [Int.tdiv_eq_ediv_of_nonneg (by omega),Int.natCast_ediv]
   rw [<-u];generalize S/g=Q at r⊢;generalize D/g=A at s⊢;have f1:IntKind.i64.wrap ((Q:Nat):Int)=((Q:Nat):Int):=Go.OB.wrap_i64 (by omega) (by omega);have f2:IntKind.i64.wrap ((A:Nat):Int)=((A:Nat):Int):=Go.OB.wrap_i64 (by omega) (by omega);have f3:IntKind.i64.wrap (-((Q:Nat):Int))= -((Q:Nat):Int):=Go.OB.wrap_i64 (by omega) (by omega);rw [qD (show¬(4611686018427387904:Int)<((Q:Nat):Int)by omega),zB,zN,qD (show¬(4611686018427387904:Int)<(A:Int)by omega),zB,zN,f1,f2,f3]
   cases decide (x<0)<;>rfl
 rw [l,zB];unfold Fca;rw [p,zB];rfl
theorem floor_eq (N n:Int) (h: -1125899906842624<=N/\N<=1125899906842624) (d:1<=n/\n<=1125899906842624):Fer N n=some (co n N):=by
 have i:=Int.emod_nonneg N (b:=n) (by omega);have j:=Int.emod_lt_of_pos N (b:=n) (by omega);have t:=tm_neg N n d.1;have e:=Int.tdiv_mul_add_tmod N n;have k: -1125899906842624<=N.tdiv n/\N.tdiv n<=1125899906842624:=by
  have f:=Int.natAbs_tdiv_le_natAbs N n;have l:(N.tdiv n).natAbs<=N.natAbs:=f;omega
 unfold Fer qN tY co;rw [if_neg (by omega),zB,if_neg (by omega),zB,Go.OB.wrap_i64 (n:=N.tdiv n) (by omega) (by omega)];simp only [zD,xB]
 by_cases c:N.tmod n<0
 ·rw [if_pos c]at t⊢;rw [zB,Go.OB.wrap_i64 (n:=N.tdiv n-1) (by omega) (by omega)];have a:(N.tdiv n-1)*n=N-N%n:=by rw [Int.sub_mul,Int.one_mul];omega
  rw [a,Go.OB.wrap_i64 (by omega) (by omega)]
 ·rw [if_neg c]at t⊢;rw [zB];have a:N.tdiv n*n=N-N%n:=by omega
  rw [a,Go.OB.wrap_i64 (by omega) (by omega)]
theorem aYu (m:Mask) (t:Track) (hh:m.Hide.length<=9223372036854775807):Fhb m t (false,0)=some (hid m t.Name):=by
 unfold Fhb;refine xG (λ(i:Nat)=>((m.Hide.take i).any λy=>decide (t.Name=y),(i:Int))) m.Hide (some (hid m t.Name)) hh ?_ ?_;intro b i x a hi;have c:m.Hide.take (i+1)=m.Hide.take i++[x]:=by rw [List.take_add_one,a];rfl
 simp only [zD];rw [yH hi,zT,yF a,zB,fG hi hh,c,List.any_append,show decide (x=t.Name)=decide (t.Name=x)from decide_eq_decide.2 ⟨Eq.symm,Eq.symm⟩,aB,zB];simp;intro b;simp only [zD,List.take_length];rw [yJ,zN];rfl
theorem aZe (m:Mask) (g:dW) (j:Int) (d:at' m.Grains j=some g) (e:1<=g.N/\g.N<=1125899906842624) (l:List fA) (o:l.length<=20000) (f: ∀x∈l,-1125899906842624<=x.N/\x.N<=1125899906842624):
  Fha m j l (0,[])=some (l.map (cs g.N)):=by
 unfold Fha;refine xG (λ(i:Nat)=>((i:Int),(l.take i).map (cs g.N))) l (some (l.map (cs g.N))) (by omega) ?_ ?_
 ·intro h i x a hi;have k:l.take (i+1)=l.take i++[x]:=by rw [List.take_add_one,a];rfl
  have b:((l.take i).map (cs g.N)).length=i:=by simp;omega
  have n: ∀y:fA,app' 24 ((l.take i).map (cs g.N)) [y]=some ((l.take i).map (cs g.N)++[y]):=by
   intro y;unfold app';rw [if_pos];simp [maxLen];omega
  simp only [zD];rw [yH hi,zT,yF a,zB,fG hi (by omega),k,List.map_append];simp only [d,zB,floor_eq x.N g.N (f x (qS a)) e,n];have c:cs g.N x=if decide (2<=x.Mark)then⟨x.At,co g.N x.N,x.Mark⟩else x:=rfl
  cases hq:decide (2<=x.Mark)
  ·rw [zN,zB];have:cs g.N x=x:=by rw [c,hq];rfl
   simp [this]
  ·rw [zT,zB];have:cs g.N x=⟨x.At,co g.N x.N,x.Mark⟩:=by rw [c,hq];rfl
   simp [this]
 ·intro h;simp only [zD,List.take_length];rw [yJ,zN]
theorem aYr (m:Mask) (b:Gm m) (t:Track) (l:t.Series.Samples.length<=20000) (e: ∀x∈t.Series.Samples,-1125899906842624<=x.N/\x.N<=1125899906842624):
    Fgm m t (0,t.Series.Samples)=some (grs t.Name m.Grains t.Series.Samples):=by
 unfold Fgm;have hm:=b.many;refine xG (λ(i:Nat)=>((i:Int),grs t.Name (m.Grains.take i) t.Series.Samples)) m.Grains (some (grs t.Name m.Grains t.Series.Samples)) (by omega) ?_ ?_;intro f i x a hi;have j:m.Grains.take (i+1)=m.Grains.take i++[x]:=by rw [List.take_add_one,a];rfl
 have d:=b.gr x (qS a);obtain⟨_,k⟩:=aKa (s:=t.Name) (gs:=m.Grains.take i) (λg d=>(b.gr g (List.mem_of_mem_take d)).1) e;simp only [zD];rw [yH hi,zT,yF a,zB,fG hi (by omega),j,aTw];by_cases c:x.Track=t.Name;rw [qD (λh=>h c),zN,aZe m x (i:Int) (yF a) d _ (by omega) k,zB,zB,if_pos c];rw [dT c,zT,zB,if_neg c];intro f;simp only [zD,List.take_length];rw [yJ,zN]
theorem aXy (f:Flight) (m:Mask) (c:Gm m) (o:Okt f) (hh:m.Hide.length<=9223372036854775807):Fdw f m=some (mfl m f):=by
 have r:=o.many;have e:Fga f m (0,[])=some (mts m f.Tracks):=by
  unfold Fga;refine xG (λ(i:Nat)=>((i:Int),mts m (f.Tracks.take i))) f.Tracks (some (mts m f.Tracks)) (by omega) ?_ ?_
  ·intro h i x a hi;obtain⟨j,k⟩:=o.trk x (qS a);have l:f.Tracks.take (i+1)=f.Tracks.take i++[x]:=by rw [List.take_add_one,a];rfl
   have b:=aJi m (f.Tracks.take i);rw [List.length_take]at b;have p:app' 56 (mts m (f.Tracks.take i)) [Track.mk x.Name (Series.mk x.Series.Den (grs x.Name m.Grains x.Series.Samples)) x.Long]=some (mts m (f.Tracks.take i)++[mtk m x]):=by
    unfold app';rw [if_pos]
    ·rfl
    ·simp [maxLen];omega
   simp only [zD];rw [yH hi,zT,yF a,zB,aYu m x hh,zB,l,aXl,fG hi (by omega)]
   cases hid m x.Name
   ·rw [zN,aYr m c x j k,zB,p,zB,zB];rfl
   ·rw [zT,zB];rfl
  ·intro h;simp only [zD,List.take_length];rw [yJ,zN]
 have d:=c.days;have q:=o.day;have t1:=Int.tmod_nonneg m.Days q.1;have t2:=Int.tmod_lt_of_pos f.Day (show 0<m.Days by omega);have s:=Int.tdiv_mul_add_tmod f.Day m.Days;have t:(f.Day.tdiv m.Days).natAbs<=f.Day.natAbs:=Int.natAbs_tdiv_le_natAbs f.Day m.Days;unfold Fdw;simp only [zD];unfold tY;rw [e,if_neg (by omega)];simp only [zB];rw [Go.OB.wrap_i64 (n:=f.Day.tdiv m.Days) (by omega) (by omega),show f.Day.tdiv m.Days*m.Days=f.Day-f.Day.tmod m.Days by omega,Go.OB.wrap_i64 (by omega) (by omega)];unfold mfl
 cases m.Tails<;>rfl
theorem aZh (f:Flight) (s:Str) (a:f.Tracks.length<=9223372036854775807):Fe5 f s=some (f.Tracks.find? λt=>decide (t.Name=s)):=by
 unfold Fe5;simp only [zD,xA];unfold Fip;rw [yT f.Tracks (λ_ x=>if decide (x.Name=s)=true then some (some (some x))else none) (some none) a]
 ·have: ∀(l:List Track) (i:Nat),eP (λ_ x=>if decide (x.Name=s)=true then some (some (some x))else none) (some none) l i=some (l.find? λt=>decide (t.Name=s)):=by
   intro l
   induction l with
   |nil=>intro i;rfl
   |cons x l b=>
    intro i;rw [eP,List.find?_cons]
    by_cases c:x.Name=s
    ·simp [c]
    ·simp only [c,decide_false,Bool.false_eq_true,if_false];exact b (i+1)
  exact this _ _
 ·intro d i x e hi;simp only [zD];rw [yH hi,zT,yF e,zB,zB,fG hi a]
  by_cases c:x.Name=s<;>simp [c,gQ]
 ·intro d;simp only [zD];rw [yJ,zN]
def tkO (f:Flight)(s:Str):Track:=(f.Tracks.find? λt=>decide (t.Name=s)).getD ⟨s,⟨1,[]⟩,0⟩
def tkF (f:Flight)(r:Rules):List Track:=(kX (vF (bI r))).map (tkO f)
theorem aFj (f:Flight)(s:Str):(tkO f s).Name=s:=by
 unfold tkO
 cases e:f.Tracks.find? λt=>decide (t.Name=s)with
 |none=>rfl
 |some t=>simpa using List.find?_some e
theorem ap56 {a:Type}(p q:List a)(h:p.length+q.length<=1000000):app' 56 p q=some (p++q):=by
 unfold app';rw [if_pos ⟨by rw [maxLen_eq];omega,by omega⟩]
theorem aDb {r:Rules}(g:Gr' r):(kX (vF (bI r))).length<=48000:=by
 rw [aIm];exact trkN_len g
theorem Tracks_eq {r:Rules}(a:okR r)(h:chk r=some 0):Fde r=some (kX (vF (bI r)),0):=by
 unfold Fde;rw [aMq r a,h,zB];simp only [zD];rw [qD (by simp),zN,aWk (rC a h),zB]
theorem aTb {r:Rules} (a:okR r) (h:chk r=some 0) {f:Flight} (c:f.Tracks.length<=1000):Fdi f r=some (tkF f r):=by
 have d:=aDb (rC a h);unfold Fdi;rw [Tracks_eq a h,zB];simp only [zD];unfold Fib tkF;generalize kX (vF (bI r))=l at *
 rw [show(([]:List Track),(0:Int))=(λ(i:Nat)=>((l.take i).map (tkO f),(i:Int))) 0 by simp];rw [xG (λ(i:Nat)=>((l.take i).map (tkO f),(i:Int))) l (some (l.map (tkO f))) (by omega) ?_ ?_]
 ·rfl
 ·intro k i x b hi;simp only [zD];have j:((l.take i).map (tkO f)).length<=48000:=by simp;omega
  rw [yH hi,zT,yF b,zB,aZh f x (by omega),zB,fG hi (by omega),jI b,List.map_append];have e:tkO f x=(f.Tracks.find? λt=>decide (t.Name=x)).getD ⟨x,⟨1,[]⟩,0⟩:=rfl;rw [List.map_singleton,e]
  cases f.Tracks.find? λt=>decide (t.Name=x)with
  |none=>simp only [Option.isNone_none,Bool.not_true,zN];rw [ap56 _ _ (by simp only [List.length_singleton];omega),zB,zB];rfl
  |some t=>simp only [Option.isNone_some,Bool.not_false,zT];rw [zB,ap56 _ _ (by simp only [List.length_singleton];omega),zB,zB];rfl
 ·intro k;simp only [zD];rw [yJ,zN,List.take_length]
theorem aUs:wW ⟨1,[]⟩=0:=by decide
theorem tkF_TK {r:Rules} (g:Gr' r) {f:Flight} (n:aHk f.Tracks=0):TK (tkF f r):=by
 have q:=aDb g;obtain⟨o,_⟩:=aFg (bI r);refine⟨by unfold tkF;rw [List.length_map];omega,λi j x _ c h k=>?_,λi x c=>?_⟩
 ·unfold tkF at c h;rw [List.getElem?_map]at c h;obtain⟨a,l,rfl⟩:=Option.map_eq_some_iff.1 c;obtain⟨_,p,rfl⟩:=Option.map_eq_some_iff.1 h;rw [aFj,aFj];intro e;subst e;have hi:=(gS.1 l);have d:=(gS.1 p);have:=List.pairwise_iff_getElem.1 o i j hi.1 d.1 k;rw [hi.2,d.2,pU]at this
  cases this
 ·unfold tkF at c;rw [List.getElem?_map]at c;obtain⟨a,l,rfl⟩:=Option.map_eq_some_iff.1 c;unfold tkO
  cases e:f.Tracks.find? λt=>decide (t.Name=a)with
  |none=>exact aUs
  |some t=>
   obtain⟨j,d⟩:=List.getElem?_of_mem (List.mem_of_find?_eq_some e);exact((aAb f.Tracks j t).1 (((aCv f.Tracks).1 n).2 j t d)).2.2.1
theorem tkF_GB {r:Rules}(a:okR r)(h:chk r=some 0){f:Flight}(b:aHk f.Tracks=0):GB r (tkF f r):=by
 have g:=rC a h;refine⟨a,h,tkF_TK g b,λs c=>?_⟩;unfold tkF;rw [List.map_map];refine List.mem_map.2 ⟨s,((aFg (bI r)).2 s).2 c,?_⟩;exact aFj f s
theorem aRb (r:Rules) {l:List Track}{s:Str} (f:s∈l.map Track.Name) (a:Int) (t:Nat): ∃(j:Nat) (x:Track),l[j]? =some x/\x.Name=s/\at' (tel l a t) (trI l s)=some (inT (a+(t:Int)) x)/\(MkR r l 0).dn (trI l s)=x.Series.Den:=by
 obtain⟨j,c,d⟩:=aAc s _ 0 f;rw [Nat.zero_add]at c;rw [List.getElem?_map,Option.map_eq_some_iff]at d;obtain⟨x,b,h⟩:=d;have e:trI l s=(j:Int):=c;refine⟨j,x,b,h,?_,?_⟩;rw [e,jA];unfold tel;rw [List.getElem?_map,b];rfl;show(at' (pF l) (trI l s)).getD 0=_;rw [e,jA];unfold pF;rw [List.getElem?_map,b];rfl
theorem two_tel {r:Rules}{l1 l2:List Track} (g1:GB r l1) (g2:GB r l2) (f: ∀s∈bI r,∀x∈l1,∀y∈l2,x.Name=s->y.Name=s->x.Series=y.Series/\x.Long=y.Long) (a:Int):aTx r l1 l2 (tel l1 a) (tel l2 a):=by
 refine⟨g1,g2,tel_I g1.t a,tel_I g2.t a,λs hm t=>?_,λs hm=>?_⟩;obtain⟨j,x,b,a2,a3,-⟩:=aRb r (g1.n s hm) a t;obtain⟨k,y,c,d,h,-⟩:=aRb r (g2.n s hm) a t;obtain⟨e,i⟩:=f s hm x (qS b) y (qS c) a2 d;rw [a3,h];unfold inT;rw [e,i];obtain⟨j,x,b,a2,-,a4⟩:=aRb r (g1.n s hm) a 0;obtain⟨k,y,c,d,-,l⟩:=aRb r (g2.n s hm) a 0;obtain⟨e,-⟩:=f s hm x (qS b) y (qS c) a2 d;rw [a4,l,e]
theorem evV_two {r:Rules}{l1 l2:List Track} (g1:GB r l1) (g2:GB r l2) (c: ∀s∈bI r,∀x∈l1,∀y∈l2,x.Name=s->y.Name=s->x.Series=y.Series/\x.Long=y.Long) (a b:Int):evV r l1 a b=evV r l2 a b/\evP r l1 a b=evP r l2 a b:=by
 have H:=two_tel g1 g2 c a;constructor;unfold evV;rw [bBd H];unfold evP;refine List.map_congr_left λ_ _=>?_;unfold phsT;rw [phs_two H]
def mkE (s:Str):Track:=⟨s,⟨1,[]⟩,0⟩
def aEk (f:Flight)(s:Str):Bool:=f.Tracks.any λt=>decide (t.Name=s)
def flF (f:Flight)(r:Rules):List Track:=f.Tracks++((kX (vF (bI r))).filter λs=> !aEk f s).map mkE
theorem full_L2 (f:Flight) {l:List Str}{i:Nat}{s:Str} (c:l[i]? =some s) (h:f.Tracks.length<=1000):Ff9 f l (i:Int) (false,0)=some (aEk f s):=by
 unfold Ff9;have d:(false,(0:Int))=(λ(k:Nat)=>(((f.Tracks.take k).any λt=>decide (t.Name=s)),(k:Int))) 0:=rfl;rw [d,xG (λ(k:Nat)=>(((f.Tracks.take k).any λt=>decide (t.Name=s)),(k:Int))) f.Tracks (some (aEk f s)) (by omega) ?_ ?_];intro e k t a b;simp only [zD];rw [yH b,zT,fG b (by omega),jI a,List.any_append];cases(f.Tracks.take k).any λt=>decide (t.Name=s);rw [zN,yF a,zB,yF c,zB,zB];simp;rw [zT,zB];simp;intro e;simp only [zD];rw [yJ,zN,List.take_length];rfl
theorem full_eq {r:Rules} (b:okR r) (h:chk r=some 0) {f:Flight} (d:f.Tracks.length<=1000):Fe0 f r=some (flF f r):=by
 have g:=rC b h;have k:=aDb g;unfold Fe0;rw [ap56 _ _ (by simp;omega),zB,aZr g,zB,<-aIm];unfold Fh1 flF;generalize kX (vF (bI r))=l at *
 have e:(([]:List Track)++f.Tracks,(0:Int))=(λ(i:Nat)=>(f.Tracks++((l.take i).filter λs=> !aEk f s).map mkE,(i:Int))) 0:=by simp
 rw [e,xG (λ(i:Nat)=>(f.Tracks++((l.take i).filter λs=> !aEk f s).map mkE,(i:Int))) l (some (f.Tracks++(l.filter λs=> !aEk f s).map mkE)) (by omega) ?_ ?_]
 ·rfl
 ·intro j i s a hi;simp only [zD];have n:(f.Tracks++((l.take i).filter λs=> !aEk f s).map mkE).length<=49000:=by
   have:=List.length_filter_le (λs=> !aEk f s) (l.take i);simp only [List.length_append,List.length_map,List.length_take]at *
   omega
  rw [yH hi,zT,full_L2 f a d,zB,fG hi (by omega),jI a,List.filter_append,List.map_append]
  cases c:aEk f s
  ·rw [Bool.not_false,zT,yF a,zB,ap56 _ _ (by simp only [List.length_singleton];omega),zB,zB];rw [List.filter_cons_of_pos (by rw [c];rfl),List.filter_nil,List.map_singleton,<-List.append_assoc];rfl
  ·rw [Bool.not_true,zN,zB,List.filter_cons_of_neg (by rw [c];simp),List.filter_nil,List.map_nil,List.append_nil]
 ·intro j;simp only [zD];rw [yJ,zN,List.take_length]
theorem aNc {f:Flight}{s:Str}:aEk f s=true↔s∈f.Tracks.map Track.Name:=by
 unfold aEk;rw [List.any_eq_true,List.mem_map];exact⟨λ⟨t,a,b⟩=>⟨t,a,of_decide_eq_true b⟩,λ⟨t,a,b⟩=>⟨t,a,dT b⟩⟩
theorem flF_GB {r:Rules} (p:okR r) (h:chk r=some 0) {f:Flight} (g:Good f):GB r (flF f r):=by
 have t:=rC p h;have C:=aDb t;obtain⟨u,v⟩:=aFg (bI r);have hm:=g.many;have tk:=tk_of g.trk;refine⟨p,h,⟨?_,?_,?_⟩,λs l=>?_⟩
 ·have:=List.length_filter_le (λs=> !aEk f s) (kX (vF (bI r)));unfold flF;rw [List.length_append,List.length_map];omega
 ·have w:(flF f r).Pairwise λa b=>a.Name≠b.Name:=by
   unfold flF;rw [List.pairwise_append];refine⟨aVb g.trk,?_,λa z b A=>?_⟩
   ·rw [List.pairwise_map];refine List.Pairwise.filter _ (u.imp λ {a b} d e=>?_);have e:a=b:=e;rw [e,pU]at d
    cases d
   ·obtain⟨s,l,rfl⟩:=List.mem_map.1 A;have q:=(List.mem_filter.1 l).2;intro e;have e:a.Name=s:=e;have:aEk f s=true:=aNc.2 (List.mem_map.2 ⟨a,z,e⟩);rw [this]at q
    cases q
  intro i j x _ n B o;have hi:=gS.1 n;have k:=gS.1 B;have:=List.pairwise_iff_getElem.1 w i j hi.1 k.1 o;rw [hi.2,k.2]at this;exact this
 ·intro i x n;have hm:=qS n;unfold flF at hm;rcases mA.1 hm with q|q
  ·obtain⟨j,k⟩:=List.getElem?_of_mem q;exact tk.s j x k
  ·obtain⟨s,_,rfl⟩:=List.mem_map.1 q;exact aUs
 ·unfold flF;rw [List.map_append,mA]
  cases c:aEk f s
  ·refine .inr (List.mem_map.2 ⟨mkE s,List.mem_map.2 ⟨s,List.mem_filter.2 ⟨(v s).2 l,by rw [c];rfl⟩,rfl⟩,rfl⟩)
  ·exact .inl (aNc.1 c)
theorem flF_same {r:Rules}{f:Flight} (g:Good f) (s:Str) {x y:Track} (l:x∈tkF f r) (n:y∈flF f r) (o:x.Name=s) (a:y.Name=s):x=y:=by
 unfold tkF at l;obtain⟨k,_,rfl⟩:=List.mem_map.1 l;rw [aFj]at o;subst o;unfold flF at n;unfold tkO;rcases mA.1 n with q|q
 ·cases e:f.Tracks.find? λt=>decide (t.Name=k)with
  |none=>
   have:=List.find?_eq_none.1 e y q;rw [a]at this;simp at this
  |some t=>
   have b:t.Name=k:=by simpa using List.find?_some e
   obtain⟨i,hi⟩:=List.getElem?_of_mem (List.mem_of_find?_eq_some e);obtain⟨j,h⟩:=List.getElem?_of_mem q;have tk:=tk_of g.trk;rcases Nat.lt_trichotomy i j with c|c|c
   ·exact absurd (b.trans a.symm) (tk.d i j t y hi h c)
   ·subst c;rw [hi]at h;exact oI h
   ·exact absurd (a.trans b.symm) (tk.d j i y t h hi c)
 ·obtain⟨s2,p,rfl⟩:=List.mem_map.1 q;have a:s2=k:=a;subst a;have q:=(List.mem_filter.1 p).2;have:f.Tracks.find? (λt=>decide (t.Name=s2))=none:=by
   refine List.find?_eq_none.2 λt b=>?_
   intro u;have:aEk f s2=true:=aNc.2 (List.mem_map.2 ⟨t,b,of_decide_eq_true u⟩);rw [this]at q
   cases q
  rw [this];rfl
theorem fl_two {r:Rules}(c:okR r)(h:chk r=some 0){f:Flight}(g:Good f)(a b:Int):evV r (tkF f r) a b=evV r (flF f r) a b/\evP r (tkF f r) a b=evP r (flF f r) a b:=
 evV_two (tkF_GB c h g.trk) (flF_GB c h g) (λs _ _ d _ e i j=>by rw [flF_same g s d e i j];exact⟨rfl,rfl⟩) a b
def rE:Bool->List Int->Nat
 |_,[]=>0
 |o,x::l=>(if x=2/\o=false then 1 else 0)+rE (decide (x=2)) l
theorem aWx (l:List Int): ∀(d t e:Nat),t+d=e->(∀s,t<=s->s<e->l[s]? =some 2)->rE true (l.drop t)=rE true (l.drop e)
 |0,t,e,hd,_=>by rw [show t=e by omega]
 |d+1,t,e,hd,h=>by
  have a:=h t (Nat.le_refl _) (by omega);have b:=(gS.1 a).1;have c:=(gS.1 a).2;rw [List.drop_eq_getElem_cons b,rE,c,if_neg (by simp),dT rfl,Nat.zero_add];exact aWx l d (t+1) e (by omega) λs _ f=>h s (by omega) f
theorem aSk {a i:Int}{l:List Int}{t:Nat}{c:List fH} (k:aOn a i l t c):(∀x∈c,x.Rule=i)/\ ∀o:Bool,(o=true->l[t]? ≠some 2)->c.length=rE o (l.drop t):=by
 induction k with
 | @done t h=>exact⟨λx b=>(by cases b),λo _=>by rw [List.drop_of_length_le h];rfl⟩
 | @skip t c h f _ d=>
  refine⟨d.1,λo _=>?_⟩;have b:l[t]≠2:=λq=>f (by rw [gE h,q])
  rw [List.drop_eq_getElem_cons h,rE,if_neg (λq=>b q.1),qD b,Nat.zero_add];exact d.2 false (λq=>by cases q)
 | @run t e c h f j _ d=>
  refine⟨λx b=>?_,λo n=>?_⟩
  ·rcases List.mem_cons.1 b with rfl|b
   ·rfl
   ·exact d.1 x b
  ·have b:=f t (Nat.le_refl _) h;have p:=(gS.1 b).1;have r:=(gS.1 b).2;have of:o=false:=by
    cases o with
    |false=>rfl
    |true=>exact absurd b (n rfl)
   rw [List.drop_eq_getElem_cons p,rE,r,if_pos ⟨rfl,of⟩,dT rfl,aWx l (e-t) (t+1) (e+1) (by omega) (λs _ _=>f s (by omega) (by omega)),List.length_cons,d.2 true (λ_=>j)];omega
theorem aAu {a:Type}(f:Nat->a){R i:Nat}(h:i<R):((List.range R).map f)[i]? =some (f i):=by
 rw [List.getElem?_map,List.getElem?_range h];rfl
theorem aYx {a:Type}(f:Nat->a){R i:Nat}(h:i<R):at' ((List.range R).map f) (i:Int)=some (f i):=yF (aAu f h)
theorem aTj {b:Type}{f g:Nat->b}{R i:Nat} (h:i<R) {x:b} (d: ∀j,j<R->g j=if j=i then x else f j):set' ((List.range R).map f) (i:Int) x=some ((List.range R).map g):=by
 unfold set';rw [if_pos ⟨by omega,by simp;omega⟩,Int.toNat_natCast];congr 1;refine List.ext_getElem? λj=>?_;rw [List.getElem?_set];by_cases a:j<R;rw [aAu g a,d j a];by_cases c:i=j;subst c;rw [if_pos rfl,if_pos (by simpa using h),if_pos rfl];rw [if_neg c,if_neg (λq=>c q.symm),aAu f a];have e:((List.range R).map g)[j]? =none:=List.getElem?_eq_none (by simp;omega);have k:((List.range R).map f)[j]? =none:=List.getElem?_eq_none (by simp;omega);rw [e,k,if_neg (by omega)]
theorem rV {a:Type}{f g:Nat->a}{R:Nat}(h: ∀j,j<R->f j=g j):(List.range R).map f=(List.range R).map g:=List.map_congr_left λj b=>h j (List.mem_range.1 b)
def aFq:Bool->List Int->Bool
 |o,[]=>o
 |_,x::l=>aFq (decide (x=2)) l
theorem aKk (x:Int): ∀(l:List Int) (o:Bool),aFq o (l++[x])=decide (x=2)
 | [],_=>rfl
 |_::l,_=>aKk x l _
theorem aOz (x:Int): ∀(l:List Int) (o:Bool),rE o (l++[x])=rE o l+if x=2/\aFq o l=false then 1 else 0
 | [],o=>by
  show rE o [x]=rE o []+if x=2/\o=false then 1 else 0;rw [rE,rE,rE,Nat.zero_add,Nat.add_zero]
 |y::l,o=>by
  rw [List.cons_append,rE,aOz x l,rE,Nat.add_assoc];rfl
theorem aSd: ∀(l:List Int) (o:Bool),rE o l<=l.length
 | [],_=>Nat.le_refl _
 |x::l,o=>by
  have:=aSd l (decide (x=2));rw [rE,List.length_cons];split<;>omega
theorem getD_at {a:Type}{l:List a}{i:Nat}{d:a}(h:i<l.length):l[i]? =some (l.getD i d):=by
 rw [List.getD_eq_getElem?_getD,gE h];rfl
theorem aZy {v:List Int} (ph:List Str) {R:Nat} (u:v.length=R) (w:R<=1000) (f:Nat->Bool) (g:Nat->Int) (r: ∀j,j<R->0<=g j/\g j<=1000000):
  Fe9 v ph ((List.range R).map f) ((List.range R).map g)=some ((List.range R).map (λj=>decide (v.getD j 0=2)),(List.range R).map λj=>g j+if v.getD j 0=2/\f j=false then 1 else 0):=by
 unfold Fe9;simp only [zD];unfold Fie;have s:((0:Int),(List.range R).map f,(List.range R).map g)=(λ(i:Nat)=>((i:Int),(List.range R).map (λj=>if j<i then decide (v.getD j 0=2)else f j),(List.range R).map λj=>if j<i then g j+(if v.getD j 0=2/\f j=false then 1 else 0)else g j)) 0:=by
  dsimp only;simp only [Nat.not_lt_zero,if_false];rfl
 rw [s,xG (λ(i:Nat)=>((i:Int),(List.range R).map (λj=>if j<i then decide (v.getD j 0=2)else f j),(List.range R).map λj=>if j<i then g j+(if v.getD j 0=2/\f j=false then 1 else 0)else g j)) v (some ((List.range R).map (λj=>decide (v.getD j 0=2)),(List.range R).map λj=>g j+if v.getD j 0=2/\f j=false then 1 else 0)) (by omega) ?_ ?_]
 ·intro k i x o hi;have a:i<R:=by omega
  have n:v.getD i 0=x:=by rw [List.getD_eq_getElem?_getD,o];rfl
  have b:=r i a;have e:set' ((List.range R).map (λj=>if j<i then decide (v.getD j 0=2)else f j)) (i:Int) (decide (x=2))=some ((List.range R).map (λj=>if j<i+1 then decide (v.getD j 0=2)else f j)):=by
   refine aTj a λj l=>?_
   by_cases c:j=i
   ·subst c;simp only [Nat.lt_succ_self,if_true,n]
   ·by_cases d:j<i
    ·simp only [if_neg c,if_pos d,if_pos (Nat.lt_succ_of_lt d)]
    ·simp only [if_neg c,if_neg d,if_neg (show¬j<i+1 by omega)]
  have t:(v.getD i 0=2/\f i=false)->set' ((List.range R).map λj=>if j<i then g j+(if v.getD j 0=2/\f j=false then 1 else 0)else g j) (i:Int) (g i+1)=some ((List.range R).map λj=>if j<i+1 then g j+(if v.getD j 0=2/\f j=false then 1 else 0)else g j):=λq=>by
   refine aTj a λj l=>?_
   by_cases c:j=i
   ·subst c;simp only [Nat.lt_succ_self,if_true,if_pos q]
   ·by_cases d:j<i
    ·simp only [if_neg c,if_pos d,if_pos (Nat.lt_succ_of_lt d)]
    ·simp only [if_neg c,if_neg d,if_neg (show¬j<i+1 by omega)]
  have p: ¬(v.getD i 0=2/\f i=false)->((List.range R).map λj=>if j<i then g j+(if v.getD j 0=2/\f j=false then 1 else 0)else g j)=((List.range R).map λj=>if j<i+1 then g j+(if v.getD j 0=2/\f j=false then 1 else 0)else g j):=λq=>by
   refine rV λj l=>?_
   by_cases c:j=i
   ·subst c;simp only [Nat.lt_irrefl,if_false,Nat.lt_succ_self,if_true,if_neg q,Int.add_zero]
   ·by_cases d:j<i
    ·simp only [if_pos d,if_pos (Nat.lt_succ_of_lt d)]
    ·simp only [if_neg d,if_neg (show¬j<i+1 by omega)]
  have h:=aYx (λj=>if j<i then decide (v.getD j 0=2)else f j) a;have a2:=aYx (λj=>if j<i then g j+(if v.getD j 0=2/\f j=false then 1 else 0)else g j) a;rw [if_neg (Nat.lt_irrefl i)]at h a2;simp only [zD];rw [yH hi,zT,yF o,zB]
  by_cases c:x=2
  ·rw [dT c,zT,h,zB];rw [dT c]at e
   cases hf:f i
   ·rw [hf]at h;simp only [Bool.not_false,zB,zT];rw [a2,zB,zB,wrap_i64 (by omega) (by omega),t ⟨by rw [n];exact c,hf⟩,zB,zB,e,zB,fG hi (by omega)]
   ·rw [hf]at h;simp only [Bool.not_true,zB,zN];rw [e,zB,fG hi (by omega),p (λq=>by rw [hf]at q;cases q.2)]
  ·rw [qD c]at e;rw [qD c,zN,zB,zN,zB,h,zB,e,zB,fG hi (by omega),p (λq=>c (by rw [<-n];exact q.1))]
 ·intro k;simp only [zD];rw [yJ,zN]
  congr 2
  ·exact rV λj l=>by rw [if_pos (by omega)]
  ·exact rV λj l=>by rw [if_pos (by omega)]
def tK (r:Rules)(l:List Track)(a:Int)(t j:Nat):List Int:=(runT (tel l a) (fO r l) t).1.map λrow=>row.getD j 0
theorem aMo (r:Rules)(l:List Track)(a:Int)(t j:Nat):(tK r l a t j).length=t:=by unfold tK;rw [List.length_map,aLd]
theorem aQo (r:Rules)(l:List Track)(a:Int)(t j:Nat):tK r l a (t+1) j=tK r l a t j++[(nxt (tel l a t) (runT (tel l a) (fO r l) t).2).1.getD j 0]:=by
 unfold tK;rw [runT,List.map_append,List.map_singleton]
theorem aJd (r:Rules)(l:List Track)(a b:Int):evV r l a b=(List.range r.Rules.length).map λj=>tK r l a (spn a b) j:=rfl
theorem nxt_rows {r:Rules}{l:List Track}(a:Int)(t:Nat):(nxt (tel l a t) (runT (tel l a) (fO r l) t).2).1.length=r.Rules.length:=by
 rw [(aAo _ _).1,aYe]
theorem aUz {r:Rules}{f:Flight}{l:List Track} (b:GB r l) (g:Good f) (c:r.Rules.length<=1000):
  Ff0 f l (f.From,(List.range r.Rules.length).map (λ_=>false),(List.range r.Rules.length).map (λ_=>(0:Int)),(fO r l).phases,(fO r l).tracks,(fO r l).moves,(fO r l).rules,(fO r l).possible)=some ((List.range r.Rules.length).map (λj=>aFq false (tK r l f.From (spn f.From f.To) j)),(List.range r.Rules.length).map λj=>(rE false (tK r l f.From (spn f.From f.To) j):Int)):=by
 have fr:=g.frm;have q:=g.span;have s:spn f.From f.To=(f.To-f.From+1).toNat:=rfl;unfold Ff0;have d:(f.From,(List.range r.Rules.length).map (λ_=>false),(List.range r.Rules.length).map (λ_=>(0:Int)),(fO r l).phases,(fO r l).tracks,(fO r l).moves,(fO r l).rules,(fO r l).possible)=(λ(t:Nat)=>(f.From+(t:Int),(List.range r.Rules.length).map (λj=>aFq false (tK r l f.From t j)),(List.range r.Rules.length).map (λj=>(rE false (tK r l f.From t j):Int)),(runT (tel l f.From) (fO r l) t).2.phases,(runT (tel l f.From) (fO r l) t).2.tracks,(runT (tel l f.From) (fO r l) t).2.moves,(runT (tel l f.From) (fO r l) t).2.rules,(runT (tel l f.From) (fO r l) t).2.possible)) 0:=by
  have:f.From+((0:Nat):Int)=f.From:=by omega
  dsimp only;rw [this];rfl
 rw [d];have a:(List.replicate (spn f.From f.To) ()).length=spn f.From f.To:=List.length_replicate;refine xG (λ(t:Nat)=>(f.From+(t:Int),(List.range r.Rules.length).map (λj=>aFq false (tK r l f.From t j)),(List.range r.Rules.length).map (λj=>(rE false (tK r l f.From t j):Int)),(runT (tel l f.From) (fO r l) t).2.phases,(runT (tel l f.From) (fO r l) t).2.tracks,(runT (tel l f.From) (fO r l) t).2.moves,(runT (tel l f.From) (fO r l) t).2.rules,(runT (tel l f.From) (fO r l) t).2.possible)) (List.replicate (spn f.From f.To) ()) _ (by rw [a];omega) ?_ ?_
 ·rintro k t _-e;rw [a]at e;obtain⟨h,i,n⟩:=frame_ok b t fr.1 (by omega:f.From+(t:Int)<=4194303);have o:=aZy (v:=(nxt (tel l f.From t) (runT (tel l f.From) (fO r l) t).2).1) (phL (runT (tel l f.From) (fO r l) (t+1)).2.possible r.Phases) (nxt_rows f.From t) c (λj=>aFq false (tK r l f.From t j)) (λj=>(rE false (tK r l f.From t j):Int)) (λj _=>by have:=aSd (tK r l f.From t j) false;rw [aMo]at this;omega);simp only [zD];rw [dT (by omega:f.From+(t:Int)<=f.To),zT];unfold Fgp Ffb;rw [h,zB,zB];show gG (gG (Fb3 (runT (tel l f.From) (fO r l) t).2 _) _) _=_;rw [i,zB,zB];show gG (Fbx (nxt (tel l f.From t) (runT (tel l f.From) (fO r l) t).2).2) _=_;rw [n,zB,o,zB,wrap_i64 (by omega) (by omega)];have p:(List.range r.Rules.length).map (λj=>decide ((nxt (tel l f.From t) (runT (tel l f.From) (fO r l) t).2).1.getD j 0=2))=(List.range r.Rules.length).map (λj=>aFq false (tK r l f.From (t+1) j)):=rV λj _=>by rw [aQo,aKk]
  have c2:((List.range r.Rules.length).map λj=>(rE false (tK r l f.From t j):Int)+if (nxt (tel l f.From t) (runT (tel l f.From) (fO r l) t).2).1.getD j 0=2/\aFq false (tK r l f.From t j)=false then 1 else 0)=(List.range r.Rules.length).map λj=>(rE false (tK r l f.From (t+1) j):Int):=rV λj _=>by
   rw [aQo,aOz];split<;>simp
  rw [p,c2,show f.From+(t:Int)+1=f.From+((t+1:Nat):Int)by omega];rfl
 ·intro k;rw [a];simp only [zD];rw [qD (by omega: ¬f.From+((spn f.From f.To:Nat):Int)<=f.To),zN]
theorem aQu {a:Type}(x:a): ∀n,List.replicate n x=(List.range n).map λ_=>x:=λn=>by
 refine List.ext_getElem? λj=>?_
 by_cases h:j<n
 ·rw [aAu (λ_=>x) h,List.getElem?_replicate_of_lt h]
 ·rw [List.getElem?_eq_none (by simp;omega),List.getElem?_eq_none (by simp;omega)]
theorem aPo {r:Rules}(a:okR r)(h:chk r=some 0){f:Flight}(g:Good f):Fbu f r=some ((List.range r.Rules.length).map λj=>(rE false (tK r (tkF f r) f.From (spn f.From f.To) j):Int)):=by
 have c:=rC a h;have d:=c.l;have b:=tkF_GB a h g.trk;unfold Fbu;have m1:make' 8 (r.Rules.length:Int) (0:Int)=some ((List.range r.Rules.length).map λ_=>(0:Int)):=by
  unfold make';rw [if_pos ⟨by omega,by omega,by omega⟩,Int.toNat_natCast,aQu]
 have m2:make' 1 (r.Rules.length:Int) false=some ((List.range r.Rules.length).map λ_=>false):=by
  unfold make';rw [if_pos ⟨by omega,by omega,by omega⟩,Int.toNat_natCast,aQu]
 simp only [zD];rw [m1,zB,m2,zB];unfold Fg5 Fgh;rw [aTb a h (by have:=g.many;omega),zB,aWw b,zB,zB,aUz b g (by omega),zB]
theorem aXj (f:Nat->List fH): ∀(n:Nat),(∀k,k<n-> ∀x∈f k,x.Rule=(k:Int))-> ∀i:Nat,((((List.range n).map f).flatten).filter λx=>decide (x.Rule=(i:Int))).length=if i<n then(f i).length else 0
 |0,_,i=>by simp
 |n+1,b,i=>by
  have j:=aXj f n (λk _=>b k (by omega)) i;have h:=b n (by omega);have l:((List.range (n+1)).map f).flatten=((List.range n).map f).flatten++f n:=by
   rw [List.range_succ,List.map_append,List.flatten_append];simp
  rw [l,List.filter_append,List.length_append,j]
  by_cases c:i=n
  ·subst c;have e:(f i).filter (λx=>decide (x.Rule=(i:Int)))=f i:=List.filter_eq_self.2 λx a=>dT (h x a)
   rw [e,if_neg (Nat.lt_irrefl i),if_pos (Nat.lt_succ_self i),Nat.zero_add]
  ·have e:(f n).filter (λx=>decide (x.Rule=(i:Int)))=[]:=List.filter_eq_nil_iff.2 λx a=>by
    rw [h x a];simp only [decide_eq_true_eq];omega
   rw [e,List.length_nil,Nat.add_zero]
   by_cases d:i<n
   ·rw [if_pos d,if_pos (by omega)]
   ·rw [if_neg d,if_neg (by omega)]
theorem evsR_all2 {a:Int} (y:0<=a/\a<=4194304) (b:List (List Int)) (z:b.length<=1000) (u: ∀x∈b,x.length<=20000): ∃E:List fH,Fdp b a=some E/\E.length<=20000000/\(∀x∈E,∃i:Nat,i<b.length/\x.Rule=(i:Int))/\ ∀(i:Nat) l,b[i]? =some l->(E.filter λx=>decide (x.Rule=(i:Int))).length=rE false l:=by
 obtain⟨f,e⟩: ∃f:Nat->List fH,∀(i:Nat) l,b[i]? =some l->aOn a (i:Int) l 0 (f i)/\(f i).length<=l.length:=by
  have q: ∀i:Nat,∃j:List fH,∀l,b[i]? =some l->aOn a (i:Int) l 0 j/\j.length<=l.length:=by
   intro i
   cases h:b[i]? with
   |none=>exact⟨[],λl c=>by cases c⟩
   |some l=>
    obtain⟨j,A,B⟩:=bAr a (i:Int) l l.length 0 (by omega);exact⟨j,λ_ c=>by obtain rfl:=oI c;exact⟨A,B⟩⟩
  exact⟨λi=>Classical.choose (q i),λi=>Classical.choose_spec (q i)⟩
 have v: ∀i:Nat,((List.range (i+1)).map f).flatten=((List.range i).map f).flatten++f i:=λi=>by
  rw [List.range_succ,List.map_append,List.flatten_append];simp
 have w: ∀i,i<=b.length->(((List.range i).map f).flatten).length<=i*20000:=by
  intro i
  induction i with
  |zero=>intro _;simp
  |succ i C=>
   intro hi;obtain⟨l,c⟩: ∃l,b[i]? =some l:=⟨_,gE (by omega)⟩;have q:=(e i l c).2;have n:=u l (qS c);have:=C (by omega);rw [v,List.length_append,Nat.succ_mul];omega
 refine⟨((List.range b.length).map f).flatten,?_,?_,λx o=>?_,λi l c=>?_⟩
 ·have p:Ffi b a ([],0)=some (((List.range b.length).map f).flatten):=by
   unfold Ffi;have D:(([]:List fH),(0:Int))=(λ(i:Nat)=>(((List.range i).map f).flatten,(i:Int))) 0:=rfl;rw [D];refine xG (λ(i:Nat)=>(((List.range i).map f).flatten,(i:Int))) b _ (by omega) ?_ ?_
   ·intro k i l c hi;have H:=w i (by omega);have q:=e i l c;have n:=u l (qS c);have t:i*20000<=1000*20000:=Nat.mul_le_mul_right _ (by omega);have r:Fiu b a (i:Int) (((List.range i).map f).flatten,0)=some (((List.range i).map f).flatten++f i):=evR_ok y (by omega) c q.1 _ FU (jF (by omega)) (by omega) (Nat.zero_le _) (λh=>absurd h (Nat.lt_irrefl 0));simp only [zD];rw [yH hi,zT,r,zB,fG hi (by omega),v]
   ·intro k;simp only [zD];rw [yJ,zN]
  unfold Fdp;rw [p,zB]
 ·have:=w b.length (Nat.le_refl _);have t:b.length*20000<=1000*20000:=Nat.mul_le_mul_right _ z;omega
 ·obtain⟨_,F,o⟩:=List.mem_flatten.1 o;obtain⟨k,d,rfl⟩:=List.mem_map.1 F;have d:=List.mem_range.1 d;obtain⟨m,hm⟩: ∃m,b[k]? =some m:=⟨_,gE d⟩;exact⟨k,d,(aSk (e k m hm).1).1 x o⟩
 ·have hi:=(gS.1 c).1;obtain⟨_,n⟩:=aSk (e i l c).1;rw [aXj f b.length (λk d=>by
   obtain⟨m,hm⟩: ∃m,b[k]? =some m:=⟨_,gE d⟩;exact(aSk (e k m hm).1).1) i,if_pos hi,n false (λq=>by cases q),List.drop_zero]
theorem refL1_eq {E:List fH}{R:Nat} (l:E.length<=20000000) (d: ∀x∈E,∃i:Nat,i<R/\x.Rule=(i:Int)):
  Fgw E (0,(List.range R).map λ_=>(0:Int))=some ((List.range R).map λi:Nat=>((E.filter λx=>decide (x.Rule=(i:Int))).length:Int)):=by
 unfold Fgw;have f:((0:Int),(List.range R).map λ_=>(0:Int))=(λ(k:Nat)=>((k:Int),(List.range R).map λi:Nat=>(((E.take k).filter λx=>decide (x.Rule=(i:Int))).length:Int))) 0:=rfl;rw [f,xG (λ(k:Nat)=>((k:Int),(List.range R).map λi:Nat=>(((E.take k).filter λx=>decide (x.Rule=(i:Int))).length:Int))) E _ (by omega) ?_ ?_]
 ·intro h k x a b;obtain⟨i,hi,e⟩:=d x (qS a);have n:((E.take k).filter λx=>decide (x.Rule=(i:Int))).length<=20000000:=by
   have:=List.length_filter_le (λx:fH=>decide (x.Rule=(i:Int))) (E.take k);rw [List.length_take]at this;omega
  simp only [zD];rw [yH b,zT,yF a,zB,e,aYx (λi:Nat=>(((E.take k).filter λx=>decide (x.Rule=(i:Int))).length:Int)) hi,zB,zB,wrap_i64 (by omega) (by omega)];rw [aTj (g:=λi:Nat=>(((E.take (k+1)).filter λx=>decide (x.Rule=(i:Int))).length:Int)) hi (λj _=>?_),zB,fG b (by omega)];rw [jI a,List.filter_append,List.length_append]
  by_cases c:j=i
  ·subst c;rw [if_pos rfl,List.filter_cons_of_pos (by rw [e];simp),List.filter_nil,List.length_singleton];simp
  ·rw [if_neg c,List.filter_cons_of_neg (by rw [e];simp;omega),List.filter_nil,List.length_nil,Nat.add_zero]
 ·intro h;simp only [zD];rw [yJ,zN,List.take_length]
theorem good_span {f:Flight}(g:Good f):aPg f.From f.To=0:=by
 have fr:=g.frm;have a:=g.span;unfold aPg;rw [if_neg (by omega),if_neg (by omega)]
theorem evV_shape {r:Rules}{l:List Track}{f:Flight}(g:Good f)(_:r.Rules.length<=1000):(0<=f.From/\f.From<=4194304)/\(evV r l f.From f.To).length=r.Rules.length/\ ∀x∈evV r l f.From f.To,x.length<=20000:=by
 have fr:=g.frm;have c:=g.span;have d:spn f.From f.To=(f.To-f.From+1).toNat:=rfl;refine⟨⟨by omega,by omega⟩,aAd _ _,λx a=>?_⟩;rw [aJd]at a;obtain⟨_,_,rfl⟩:=List.mem_map.1 a;rw [aMo];omega
theorem aZm {r:Rules}(a:okR r)(h:chk r=some 0){f:Flight}(g:Good f):Fb6 f r=some ((List.range r.Rules.length).map λj=>(rE false (tK r (flF f r) f.From (spn f.From f.To) j):Int)):=by
 have b:=rC a h;have t:=b.l;have c:=flF_GB a h g;obtain⟨s1,_,d⟩:=evV_shape (r:=r) (l:=flF f r) g (by omega);obtain⟨_,e,k,n,o⟩:=evsR_all2 s1 (evV r (flF f r) f.From f.To) (by omega) d;unfold Fb6;have m1:make' 8 (r.Rules.length:Int) (0:Int)=some ((List.range r.Rules.length).map λ_=>(0:Int)):=by
  unfold make';rw [if_pos ⟨by omega,by omega,by omega⟩,Int.toNat_natCast,aQu]
 simp only [zD];rw [m1,zB,full_eq a h (by have:=g.many;omega),zB,Truths_eq c (good_span g),zB,e,zB,refL1_eq k (λx p=>by obtain⟨i,_,q⟩:=n x p;exact⟨i,by omega,q⟩),zB]
 congr 1
 refine rV λj s=>?_
 rw [o j (tK r (flF f r) f.From (spn f.From f.To) j) (by rw [aJd];exact aAu _ s)]
theorem aVn {r:Rules}(b:okR r)(h:chk r=some 0){f:Flight}(g:Good f):Fb6 f r=Fbu f r:=by
 rw [aZm b h g,aPo b h g];have e:=(fl_two b h g f.From f.To).1;rw [aJd,aJd]at e;congr 1;refine rV λj c=>?_;have a:=aAu (λj=>tK r (tkF f r) f.From (spn f.From f.To) j) c;rw [e,aAu (λj=>tK r (flF f r) f.From (spn f.From f.To) j) c]at a;rw [oI a]
def lfF (l:List Flight):Option Int:=if decide (300<(l.length:Int))then some 3 else eP (λ_ f=>if vU f=0 then none else some (some (vU f))) (some 0) l 0
theorem aBf (l:List Flight) (h:okL kF l):Fet l=lfF l:=by
 unfold Fet lfF;simp only [zD,xA,bG];congr 1;unfold Fio;refine yT l _ _ h.1 ?_ ?_;intro b _ x a hi;simp only [zD];rw [yH hi,zT,yF a,zB,aMs x (h.2 x (qS a)),zB,fG hi h.1,xB];by_cases c:vU x=0<;>simp [c];intro b;simp only [zD];rw [yJ];rfl
theorem aFc (l:List Flight) (h:okL kF l):Fd0 l=lfF l:=by
 unfold Fd0 lfF;simp only [zD,xA,bG];congr 1;unfold Fh2;refine yT l _ _ h.1 ?_ ?_;intro b _ x a hi;simp only [zD];rw [yH hi,zT,yF a,zB,aIr x (h.2 x (qS a)),zB,fG hi h.1,xB];by_cases c:vU x=0<;>simp [c];intro b;simp only [zD];rw [yJ];rfl
theorem aCm (l:List Flight): ∃r,lfF l=some r:=by
 unfold lfF;split
 ·exact⟨_,rfl⟩
 ·have: ∀(m:List Flight) (i:Nat),∃r,eP (λ_ f=>if vU f=0 then none else some (some (vU f))) (some 0) m i=some r:=by
   intro m
   induction m with
   |nil=>intro i;exact⟨_,rfl⟩
   |cons x m a=>
    intro i;rw [eP]
    by_cases c:vU x=0
    ·simp only [c,if_true];exact a (i+1)
    ·simp only [c,if_false];exact⟨_,rfl⟩
  exact this l 0
theorem aMu {l:List Flight} (h:lfF l=some 0):l.length<=300/\ ∀f∈l,vU f=0:=by
 unfold lfF at h
 by_cases c:300<(l.length:Int)
 ·rw [dT c,if_pos rfl]at h;cases h
 rw [qD c,if_neg Bool.false_ne_true]at h;refine⟨by omega,?_⟩;have: ∀(m:List Flight) (i:Nat),eP (λ_ f=>if vU f=0 then none else some (some (vU f))) (some 0) m i=some 0-> ∀f∈m,vU f=0:=by
  intro m
  induction m with
  |nil=>intro i _ f a;cases a
  |cons x m b=>
   intro i hm f a;rw [eP]at hm
   by_cases c:vU x=0
   ·simp only [c,if_true]at hm;rcases List.mem_cons.1 a with rfl|a
    ·exact c
    ·exact b (i+1) hm f a
   ·simp only [c,if_false]at hm;exact absurd (oI hm) c
 exact this l 0 h
def aSs (r:Rules)(f:Flight):List Int:=(List.range r.Rules.length).map λj=>(rE false (tK r (tkF f r) f.From (spn f.From f.To) j):Int)
theorem aQv {r:Rules}(b:okR r)(h:chk r=some 0){f:Flight}(g:Good f):Fbu f r=some (aSs r f)/\(aSs r f).length=r.Rules.length/\ ∀x∈aSs r f,0<=x/\x<=20000:=by
 refine⟨aPo b h g,by unfold aSs;simp,λx a=>?_⟩;unfold aSs at a;obtain⟨j,_,rfl⟩:=List.mem_map.1 a;have fr:=g.frm;have c:=g.span;have d:spn f.From f.To=(f.To-f.From+1).toNat:=rfl;have q:=aSd (tK r (tkF f r) f.From (spn f.From f.To) j) false;rw [aMo]at q;omega
def dyT (m:Mask)(f:Flight):Int:=(mfl m f).Day
def ctT (r:Rules)(m:Mask)(j:Nat)(f:Flight):Int:=(aSs r (mfl m f)).getD j 0
theorem aMh {m:Mask}{f:Flight}(a:Gm m)(g:Good f):0<=dyT m f/\dyT m f<=1000000:=(aBr a g).day
theorem aZs {r:Rules}{m:Mask}{f:Flight}{j:Nat}(a:okR r)(h:chk r=some 0)(b:Gm m)(g:Good f):0<=ctT r m j f/\ctT r m j f<=20000:=by
 have q:=(aQv a h (aBr b g)).2.2;unfold ctT;rw [List.getD_eq_getElem?_getD]
 cases hx:(aSs r (mfl m f))[j]? with
 |none=>exact⟨Int.le_refl _,by decide⟩
 |some x=>exact q x (qS hx)
structure SumT where
 a:Int
 b:Int
 c:Int
 d:Int
def smT (r:Rules)(m:Mask)(j:Nat)(l:List Flight):SumT:=⟨jP (l.map (dyT m)),jP (l.map (ctT r m j)),jP (l.map λf=>dyT m f*dyT m f),jP (l.map λf=>dyT m f*ctT r m j f)⟩
theorem smT_bd {r:Rules}{m:Mask}{j:Nat}{l:List Flight}(n:okR r)(h:chk r=some 0)(i:Gm m)(u:l.length<=300)(k: ∀f∈l,Good f):
  (0<=(smT r m j l).a/\(smT r m j l).a<=300000000)/\(0<=(smT r m j l).b/\(smT r m j l).b<=6000000)/\(0<=(smT r m j l).c/\(smT r m j l).c<=300000000000000)/\(0<=(smT r m j l).d/\(smT r m j l).d<=6000000000000):=by
 have o:(l.length:Int)<=300:=by omega
 have q: ∀(g:Flight->Int) (B:Int),0<=B->(∀f∈l,0<=g f/\g f<=B)->0<=jP (l.map g)/\jP (l.map g)<=300*B:=by
  intro g B p s;have:=bBa (B:=B) (l:=l.map g) λ_ t=>by obtain⟨f,e,rfl⟩:=List.mem_map.1 t;exact s f e
  rw [List.length_map]at this;have:=Int.mul_le_mul_of_nonneg_right o p;omega
 refine⟨q _ 1000000 (by decide) λf e=>aMh i (k f e),q _ 20000 (by decide) λf e=>aZs n h i (k f e),q _ 1000000000000 (by decide) λf e=>?_,q _ 20000000000 (by decide) λf e=>?_⟩
 ·exact aXm (aMh i (k f e)) (aMh i (k f e))
 ·exact aXm (aMh i (k f e)) (aZs n h i (k f e))
theorem smT_next {r:Rules}{m:Mask}{j:Nat}{l:List Flight}{i:Nat}{f:Flight}(e:l[i]? =some f):
    smT r m j (l.take (i+1))=⟨(smT r m j (l.take i)).a+dyT m f,(smT r m j (l.take i)).b+ctT r m j f,(smT r m j (l.take i)).c+dyT m f*dyT m f,(smT r m j (l.take i)).d+dyT m f*ctT r m j f⟩:=by
 unfold smT;rw [jI e];simp only [List.map_append,List.map_cons,List.map_nil,aNi];simp only [jP,Int.add_zero]
theorem smT_rev (r:Rules)(m:Mask)(j:Nat)(l:List Flight):smT r m j l.reverse=smT r m j l:=by
 unfold smT;simp only [List.map_reverse,sumI_rev]
theorem aPt {l:List Flight}{r:Rules}{m:Mask} (t:okR r) (h:chk r=some 0) (o:Gm m) (hh:m.Hide.length<=9223372036854775807) (C:l.length<=300) (u: ∀f∈l,Good f) {j:Nat} (D:j<r.Rules.length):
  Fel l r m (j:Int) (l.length:Int) (0,0,0,0,0)=some ((smT r m j l).a,(smT r m j l).b,(smT r m j l).c,(smT r m j l).d)/\
  Fdq l r m (j:Int) (l.length:Int) (0,0,0,0,0)=some ((smT r m j l).a,(smT r m j l).b,(smT r m j l).c,(smT r m j l).d):=by
 have z:((0:Int),(0:Int),(0:Int),(0:Int),(0:Int))=(λ(i:Nat)=>((smT r m j (l.take i)).a,(smT r m j (l.take i)).b,(smT r m j (l.take i)).c,(smT r m j (l.take i)).d,(i:Int))) 0:=rfl;have A: ∀(i:Nat) (f:Flight),l[i]? =some f->(smT r m j (l.take (i+1))).a=IntKind.i64.wrap ((smT r m j (l.take i)).a+(mfl m f).Day)/\(smT r m j (l.take (i+1))).b=IntKind.i64.wrap ((smT r m j (l.take i)).b+ctT r m j f)/\
   (smT r m j (l.take (i+1))).c=IntKind.i64.wrap ((smT r m j (l.take i)).c+IntKind.i64.wrap ((mfl m f).Day*(mfl m f).Day))/\(smT r m j (l.take (i+1))).d=IntKind.i64.wrap ((smT r m j (l.take i)).d+IntKind.i64.wrap ((mfl m f).Day*ctT r m j f)):=by
  intro i f e;obtain⟨_,_,_,_⟩:=smT_bd (j:=j) (l:=l.take i) t h o (by rw [List.length_take];omega) (λf e=>u f (List.mem_of_mem_take e));have d1:=aMh o (u f (qS e));have d2:=aZs (j:=j) t h o (u f (qS e));have m1:=aXm d1 d1;have m2:=aXm d1 d2;rw [smT_next e];show _=IntKind.i64.wrap (_+dyT m f)/\_/\_=IntKind.i64.wrap (_+IntKind.i64.wrap (dyT m f*dyT m f))/\_=IntKind.i64.wrap (_+IntKind.i64.wrap (dyT m f*ctT r m j f));dsimp only;generalize dyT m f*dyT m f=p at m1⊢;generalize dyT m f*ctT r m j f=q at m2⊢;rw [wrap_i64 (n:=p) (by omega) (by omega),wrap_i64 (n:=q) (by omega) (by omega),wrap_i64 (by omega) (by omega),wrap_i64 (by omega) (by omega),wrap_i64 (by omega) (by omega),wrap_i64 (by omega) (by omega)];exact⟨rfl,rfl,rfl,rfl⟩
 constructor
 ·unfold Fel;rw [z];refine(xG (λ(i:Nat)=>((smT r m j (l.take i)).a,(smT r m j (l.take i)).b,(smT r m j (l.take i)).c,(smT r m j (l.take i)).d,(i:Int))) l (some ((smT r m j (l.take l.length)).a,(smT r m j (l.take l.length)).b,(smT r m j (l.take l.length)).c,(smT r m j (l.take l.length)).d)) (by omega) ?_ ?_).trans (by rw [List.take_length])
  ·intro k i f e hi;have s:=u f (qS e);obtain⟨v,B,-⟩:=aQv t h (aBr o s);have w:at' (aSs r (mfl m f)) (j:Int)=some (ctT r m j f):=yF (getD_at (by omega));obtain⟨s1,s2,x,y⟩:=A i f e;simp only [zD];rw [yH hi,zT,yF e,zB,masked_eq f m o (okt_of s) hh,zB,v,zB,w,zB,fG hi (by omega),s1,s2,x,y]
  ·intro k;simp only [zD];rw [yJ,zN]
 ·unfold Fdq;rw [z];refine(xG (λ(i:Nat)=>((smT r m j (l.take i)).a,(smT r m j (l.take i)).b,(smT r m j (l.take i)).c,(smT r m j (l.take i)).d,(i:Int))) l (some ((smT r m j (l.take l.length)).a,(smT r m j (l.take l.length)).b,(smT r m j (l.take l.length)).c,(smT r m j (l.take l.length)).d)) (by omega) ?_ ?_).trans (by rw [List.take_length])
  ·intro k i f e hi;have s:=u f (qS e);obtain⟨v,B,-⟩:=aQv t h (aBr o s);have w:at' (aSs r (mfl m f)) (j:Int)=some (ctT r m j f):=yF (getD_at (by omega));obtain⟨s1,s2,x,y⟩:=A i f e;simp only [zD];rw [yH hi,zT,yF e,zB,aXy f m o (okt_of s) hh,zB,aVn t h (aBr o s),v,zB,w,zB,fG hi (by omega),s1,s2,x,y]
  ·intro k;simp only [zD];rw [yJ,zN]
theorem aGy:Fgv=some true:=by decide+kernel
theorem nO {o:Option Int}(h: ∃e,o=some e):o=some (o.getD 0):=by obtain⟨e,rfl⟩:=h;rfl
def trE (l:List Flight)(r:Rules)(m:Mask):Int:=if (lfF l).getD 0≠0 then(lfF l).getD 0 else if (chk r).getD 0≠0 then(chk r).getD 0 else(aMk m).getD 0
theorem rule_same {r:Rules} (s:Str) (a:r.Rules.length<=9223372036854775807): ∃n,Fe2 r.Rules s=some n/\Faj r s=some n/\(0<=n-> ∃j:Nat,n=(j:Int)/\j<r.Rules.length):=by
 obtain⟨n,d,b⟩:=aCw (λy:Rule=>decide (y.Name=s)) r.Rules 0;refine⟨n,?_,?_,?_⟩
 ·unfold Fe2;simp only [zD,xA];unfold Fiv;rw [yT r.Rules (λi x=>if decide (x.Name=s)=true then some (some (i:Int))else none) (some (-1)) a ?_ ?_,d]
  ·intro k i x c hi;simp only [zD,Ffd];rw [yH hi,zT,yF c,zB,zB,fG hi a]
   cases decide (x.Name=s)<;>rfl
  ·intro k;simp only [zD];rw [yJ];rfl
 ·unfold Faj;simp only [xA];unfold Fdu;rw [yT r.Rules (λi x=>if decide (x.Name=s)=true then some (some (i:Int))else none) (some (-1)) a ?_ ?_,d]
  ·intro k i x c hi;simp only [zD];rw [yH hi,zT,yF c,zB,fG hi a]
   cases decide (x.Name=s)<;>rfl
  ·intro k;simp only [zD];rw [yJ];rfl
 ·intro _;rcases b with ⟨b,-⟩|⟨j,b,⟨x,e,-⟩,-⟩
  ·omega
  ·exact⟨j,by omega,(gS.1 e).1⟩
def aZg (n:Int):Int×Int×Int×Int->Option (Ratio×Int):=λq=>
     gQ (decide (IntKind.i64.wrap (IntKind.i64.wrap (n*q.2.2.1)-IntKind.i64.wrap (q.1*q.1))=0)) (some (Ratio.mk 0 0,13))
     (gG (Fb2 (IntKind.i64.wrap (IntKind.i64.wrap (n*q.2.2.2)-IntKind.i64.wrap (q.1*q.2.1))) (IntKind.i64.wrap (IntKind.i64.wrap (n*q.2.2.1)-IntKind.i64.wrap (q.1*q.1)))) λg=>
      gG (tY .i64 (IntKind.i64.wrap (IntKind.i64.wrap (n*q.2.2.2)-IntKind.i64.wrap (q.1*q.2.1))) g) λa=>gG (tY .i64 (IntKind.i64.wrap (IntKind.i64.wrap (n*q.2.2.1)-IntKind.i64.wrap (q.1*q.1))) g) λb=>some (Ratio.mk a b,0))
theorem aYt {l:List Flight}{r:Rules}{m:Mask} (s:Str) (h:okL kF l) (A:okR r) (hm:aHp m) (B:trE l r m=0):
  l.length<=300/\ ∃q:Ratio×Int,Fat l r m s=some q/\Fa8 l r m s=some q/\ ∀e,e.length=l.length->okL kF e->(lfF e).getD 0=0->(∀j,smT r m j e=smT r m j l)->Fat e r m s=some q:=by
 have C:=nO (aCm l);have t:=nO (aWy r);have F:=nO (aQm m);have z:(lfF l).getD 0=0/\(chk r).getD 0=0/\(aMk m).getD 0=0:=by
  unfold trE at B;split at B
  ·exact absurd B (by assumption)
  ·split at B
   ·exact absurd B (by assumption)
   ·rename_i N c2;exact⟨by simpa using N,by simpa using c2,B⟩
 rw [z.1]at C;rw [z.2.1]at t;rw [z.2.2]at F;obtain⟨l1,l2⟩:=aMu C;have K: ∀f∈l,Good f:=λf G=>bCf (l2 f G)
 have g2:=(good2_of F).toGm;have O:=rC A t;have P:=O.l;have hh:=hm.2.2.1.1;obtain⟨n,Q,R,S⟩:=rule_same s (by omega:r.Rules.length<=9223372036854775807);refine⟨l1,?_⟩
 -- the program, for any list of as many flights with the same sums
 have prog: ∀e:List Flight,e.length=l.length->okL kF e->lfF e=some 0->Fat e r m s=
   gQ (decide (n<0)||decide ((l.length:Int)<m.Least)) (some (Ratio.mk 0 0,(4:Int)))
    (gG (Fel e r m n (l.length:Int) (0,0,0,0,0)) (aZg (l.length:Int))):=by
  intro e H I T;unfold Fat;rw [aBf e I,aMq r A,aFp m hm,T,t,F,H];simp only [zD,zB];rw [qD (by simp),zN,zN,zN,Q,zB]
  cases decide (n<0)<;>cases decide ((l.length:Int)<m.Least)<;>rfl
 have i:Fa8 l r m s=
   gQ (decide (n<0)||decide ((l.length:Int)<m.Least)) (some (Ratio.mk 0 0,(4:Int)))
    (gG (Fdq l r m n (l.length:Int) (0,0,0,0,0)) λq=>
     gQ (decide (IntKind.i64.wrap (IntKind.i64.wrap ((l.length:Int)*q.2.2.1)-IntKind.i64.wrap (q.1*q.1))=0)) (some (Ratio.mk 0 0,13))
     (gG (Fb4 (IntKind.i64.wrap (IntKind.i64.wrap ((l.length:Int)*q.2.2.2)-IntKind.i64.wrap (q.1*q.2.1))) 1) λw=>gG (Fca w (IntKind.u64.wrap (IntKind.i64.wrap (IntKind.i64.wrap ((l.length:Int)*q.2.2.1)-IntKind.i64.wrap (q.1*q.1))))) λ⟨a,b⟩=>some (a,b))):=by
  unfold Fa8 Fey;rw [aFc l h,aPv r A,aEc m hm (by have:=hm.2.2.2.1.1;omega),C,t,F];simp only [zD,zB];rw [qD (by simp),zN,zN,zB,qD (by simp),zN,R,zB]
  cases decide (n<0)<;>cases decide ((l.length:Int)<m.Least)<;>rfl
 by_cases c:(decide (n<0)||decide ((l.length:Int)<m.Least))=true
 ·rw [c]at prog i;refine⟨(Ratio.mk 0 0,4),prog l rfl h C,i,λe k a2 a3 _=>prog e k a2 ?_⟩;have:=nO (aCm e);rw [a3]at this;exact this
 ·have c:=eq_false_of_ne_true c;rw [c]at prog i;simp only [zN]at prog i;have X:0<=n:=by
   rw [Bool.or_eq_false_iff,decide_eq_false_iff_not]at c;omega
  obtain⟨j,rfl,L⟩:=S X;obtain⟨t1,t2⟩:=aPt A t g2 hh l1 K L;obtain⟨J,Y,b3,b4⟩:=smT_bd (j:=j) (l:=l) A t g2 l1 K;have M:(0:Int)<=(l.length:Int)/\(l.length:Int)<=300:=by omega
  have p1:=aXm M b4;have p2:=aXm J Y;have p3:=aXm M b3;have p4:=aXm J J;have cs:0<=(l.length:Int)*(smT r m j l).c-(smT r m j l).a*(smT r m j l).a:=cauchy (dyT m) l;rw [t2,zB]at i;dsimp only at i;have o: ∀e:List Flight,e.length=l.length->okL kF e->lfF e=some 0->(∀j,smT r m j e=smT r m j l)->Fat e r m s=aZg (l.length:Int) ((smT r m j l).a,(smT r m j l).b,(smT r m j l).c,(smT r m j l).d):=by
   intro e k a2 a3 a4;have E:=aMu a3;have q:=(aPt (l:=e) A t g2 hh E.1 (λf G=>bCf (E.2 f G)) L).1;rw [k,a4 j]at q;have p:=prog e k a2 a3;rw [q,zB]at p;exact p
  unfold aZg at o;dsimp only at o;generalize (smT r m j l).a*(smT r m j l).a=u at *
  generalize (smT r m j l).a*(smT r m j l).b=v at *
  generalize (l.length:Int)*(smT r m j l).c=x at *
  generalize (l.length:Int)*(smT r m j l).d=y at *
  rw [wrap_i64 (n:=x) (by omega) (by omega),wrap_i64 (n:=u) (by omega) (by omega),wrap_i64 (n:=y) (by omega) (by omega),wrap_i64 (n:=v) (by omega) (by omega),wrap_i64 (n:=x-u) (by omega) (by omega),wrap_i64 (n:=y-v) (by omega) (by omega)]at i o;have fin: ∀e:List Flight,e.length=l.length->okL kF e->(lfF e).getD 0=0->lfF e=some 0:=λe _ _ a3=>by have:=nO (aCm e);rw [a3]at this;exact this
  by_cases c0:x-u=0
  ·rw [dT c0,zT]at i o;exact⟨_,o l rfl h C (λ_=>rfl),i,λe k a2 a3 a4=>o e k a2 (fin e k a2 a3) a4⟩
  ·obtain⟨D,hD⟩: ∃D:Nat,x-u=(D:Int):=⟨(x-u).toNat,by omega⟩;rw [qD c0,zN,hD]at i o;rw [w64 (a:=(D:Int)) (by omega) (by omega),ref_rT (by omega) (by omega) (by omega)]at i;rw [fleet_rT (by omega) (by omega) (by omega)]at o;exact⟨_,o l rfl h C (λ_=>rfl),i,λe k a2 a3 a4=>o e k a2 (fin e k a2 a3) a4⟩
theorem Trend_bad {l:List Flight}{r:Rules}{m:Mask} (s:Str) (h:okL kF l) (b:okR r) (hm:aHp m) (c:trE l r m≠0):
    Fat l r m s=some (Ratio.mk 0 0,trE l r m)/\Fa8 l r m s=some (Ratio.mk 0 0,trE l r m):=by
 have d:=nO (aCm l);have e:=nO (aWy r);have f:=nO (aQm m);unfold Fat Fa8 Fey;rw [aBf l h,aMq r b,aFp m hm,aFc l h,aPv r b,aEc m hm (by have:=hm.2.2.2.1.1;omega)];unfold trE at c⊢;generalize (lfF l).getD 0=a1 at *;generalize (chk r).getD 0=a2 at *;generalize (aMk m).getD 0=a3 at *;rw [d,e,f];simp only [zD,zB];by_cases a:a1=0;by_cases c2:a2=0;by_cases c3:a3=0;simp [a,c2,c3]at c;constructor<;>simp [a,c2,c3,gQ,zB];constructor<;>simp [a,c2,gQ,zB];constructor<;>simp [a,gQ,zB]
theorem lfF_of {l:List Flight}(d:l.length<=300)(a: ∀f∈l,vU f=0):lfF l=some 0:=by
 unfold lfF;rw [qD (by omega),if_neg Bool.false_ne_true];have: ∀(m:List Flight) (i:Nat),(∀f∈m,vU f=0)->eP (λ_ f=>if vU f=0 then none else some (some (vU f))) (some 0) m i=some 0:=by
  intro m
  induction m with
  |nil=>intro i _;rfl
  |cons x m b=>
   intro i hm;rw [eP];simp only [hm x List.mem_cons_self,if_true];exact b (i+1) λf c=>hm f (List.mem_cons_of_mem _ c)
 exact this l 0 a
theorem lfF_rev {l:List Flight}(h:lfF l=some 0):lfF l.reverse=some 0:=by
 obtain⟨a,b⟩:=aMu h;exact lfF_of (by rw [List.length_reverse];exact a) λf c=>b f (List.mem_reverse.1 c)
theorem rev_loop {l:List Flight} (f:l.length<=300):Ffz l ([],IntKind.i64.wrap ((l.length:Int)-1))=some l.reverse:=by
 unfold Ffz;have d:(([]:List Flight),IntKind.i64.wrap ((l.length:Int)-1))=(λ(i:Nat)=>(l.reverse.take i,(l.length:Int)-1-(i:Int))) 0:=by
  show _=(_,_);rw [wrap_i64 (by omega) (by omega),List.take_zero];simp
 rw [d];refine(xG (λ(i:Nat)=>(l.reverse.take i,(l.length:Int)-1-(i:Int))) l.reverse (some (l.reverse.take l.reverse.length)) (by rw [List.length_reverse];omega) ?_ ?_).trans (by rw [List.take_length])
 ·intro k i x a hi;rw [List.length_reverse]at hi;have b:l[l.length-1-i]? =some x:=by rw [List.getElem?_reverse hi]at a;exact a
  have c:(l.length:Int)-1-(i:Int)=((l.length-1-i:Nat):Int):=by omega
  have e:app' 80 (l.reverse.take i) [x]=some (l.reverse.take i++[x]):=by
   unfold app';rw [if_pos ⟨by rw [maxLen_eq];simp;omega,by simp;omega⟩]
  simp only [zD];rw [dT (by omega),zT,c,yF b,zB,e,zB,jI a,<-c,wrap_i64 (by omega) (by omega)]
  congr 2
  omega
 ·intro k;rw [List.length_reverse];simp only [zD];rw [qD (by omega),zN]
theorem aMt (l:List Flight) (r:Rules) (m:Mask) (s:Str) (h:okL (λx=>kF x) l) (o:bCe r) (hm:aHp m) (_hs:okS s):Ffj l r m s=some true:=by
 have k:okR r:=o;unfold Ffj
 by_cases c:trE l r m=0
 ·obtain⟨p,⟨_,e⟩,b,d,t⟩:=aYt s h k hm c;rw [b,d];simp only [zB,zD,xA];simp only [decide_true,Bool.not_true,zN,zB,ne_eq,not_true_eq_false,decide_false]
  by_cases f:e=0
  ·have z:lfF l=some 0:=by
    have n:=nO (aCm l);have:(lfF l).getD 0=0:=by
     unfold trE at c;split at c
     ·exact absurd c (by assumption)
     ·rename_i u;simpa using u
    rw [this]at n;exact n
   have i:okL kF l.reverse:=⟨by rw [List.length_reverse];exact h.1,λx v=>h.2 x (List.mem_reverse.1 v)⟩;have w:(lfF l.reverse).getD 0=0:=by rw [lfF_rev z];rfl
   have q:=t l.reverse (List.length_reverse) i w (λj=>smT_rev r m j l);rw [dT f,zT,rev_loop p,zB,q,zB];subst f;simp only [decide_true,Bool.not_true,zN,zB,not_true_eq_false,decide_false,aGy]
  ·rw [qD f,zN,aGy];rfl
 ·obtain⟨b,d⟩:=Trend_bad s h k hm c;rw [b,d];simp only [zB,zD,xA];simp only [decide_true,Bool.not_true,zN,zB,ne_eq,not_true_eq_false,decide_false];rw [qD c,zN,aGy];rfl
end Go.Lf
