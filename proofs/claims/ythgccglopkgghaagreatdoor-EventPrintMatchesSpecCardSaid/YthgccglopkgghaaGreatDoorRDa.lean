/- Laws that the claim stands on; no condition beyond those stated. -/
import Derived.Test.YthgccglopkgghaaGreatDoorKPa
import Derived.Lib.AtoiAllCases
namespace Go.Lf
open Go.OB
section
variable {γ β σ:Type}
theorem nK {body:(γ->Option β)->γ->Option β}(enc:σ->γ)(c:σ->Nat)(I:σ->Prop)(R:σ->Option β)
  (step: ∀k s,I s->(∀b,I b->c b<c s->k (enc b)=R b)->body k (enc s)=R s)(s:σ)(e:I s)(hs:c s<=9223372036854775807):fG body (enc s)=R s:=by
 have d: ∀n s,I s->c s<n->eU body n (enc s)=R s:=by
  intro n
  induction n with
  |zero=>intro s _ _;omega
  |succ n g=>intro s j _;exact step _ s j λb l _=>g b l (by omega)
 exact d FU s e (jL hs)
end
def aGg (c:UInt8):Bool:=c==32||c==9||c==10||c==13
def nl (l:Str):Nat:=(l.takeWhile λc=>c !=10).length
mutual
def skL:Str->Nat
 | []=>0
 |c::l=>if aGg c then 1+skL l else if c==35 then 1+skC l else 0
def skC:Str->Nat
 | []=>0
 |c::l=>if c==10 then 1+skL l else 1+skC l
end
theorem jX (c:UInt8)(l:Str):nl (c::l)=if c=10 then 0 else nl l+1:=by
 unfold nl;rw [List.takeWhile_cons];by_cases h:c=10;subst h;simp;simp [h]
theorem aKc: ∀l:Str,nl l<=l.length
 | []=>by unfold nl;simp
 |c::l=>by
  rw [jX];have:=aKc l;split<;>simp<;>omega
theorem aJa: ∀l:Str,skC l=nl l+skL (l.drop (nl l))
 | []=>by rw [skC];unfold nl;simp [skL]
 |c::l=>by
  rw [skC,jX]
  by_cases h:c=10
  ·subst h;rw [if_pos rfl,if_pos (by rfl)];simp only [List.drop_zero,Nat.zero_add];rw [skL,if_pos (by decide)]
  ·rw [if_neg (by simpa using h),if_neg h,aJa l,List.drop_succ_cons];omega
mutual
theorem uO: ∀l:Str,skL l<=l.length
 | []=>by rw [skL];exact Nat.zero_le _
 |c::l=>by
  have b:=uO l;have d:=skC_le l;rw [skL,List.length_cons];split
  ·omega
  ·split<;>omega
theorem skC_le: ∀l:Str,skC l<=l.length
 | []=>by rw [skC];exact Nat.zero_le _
 |c::l=>by
  have b:=uO l;have d:=skC_le l;rw [skC,List.length_cons];split<;>omega
end
theorem idx_nl: ∀l:Str,Lib.indexByte l 10=if nl l=l.length then-1 else(nl l:Int)
 | []=>by unfold nl;rw [Lib.indexByte];simp
 |c::l=>by
  rw [Lib.indexByte,jX,idx_nl l,List.length_cons];have:=aKc l
  by_cases h:c=10
  ·subst h;simp
  ·rw [if_neg (by simpa using h),if_neg h]
   by_cases e:nl l=l.length
   ·rw [if_pos e,if_pos (by decide),if_pos (by omega)]
   ·rw [if_neg e,if_neg (by simp),if_neg (by omega)];simp
theorem drop_at {s:Str}{p:Nat}(h:p<s.length): ∃c,s[p]? =some c/\s.drop p=c::s.drop (p+1):=⟨s[p],gE h,List.drop_eq_getElem_cons h⟩
theorem bI (c n:UInt8):decide ((c.toNat:Int)=(n.toNat:Int))=(c==n):=by
 rw [Bool.eq_iff_iff,decide_eq_true_eq,beq_iff_eq];constructor;intro h;exact UInt8.toNat_inj.1 (by omega);intro h;rw [h]
theorem aKn (c:UInt8):aGg c=(decide ((c.toNat:Int)=32)||(decide ((c.toNat:Int)=9)||(decide ((c.toNat:Int)=10)||decide ((c.toNat:Int)=13)))):=by
 have b:decide ((c.toNat:Int)=32)=(c==32):=bI c 32;have d:decide ((c.toNat:Int)=9)=(c==9):=bI c 9;have e:decide ((c.toNat:Int)=10)=(c==10):=bI c 10;have g:decide ((c.toNat:Int)=13)=(c==13):=bI c 13;rw [b,d,e,g];unfold aGg;simp only [Bool.or_assoc]
theorem or4 (a b c d:Bool):(gV a (some a) (gV b (some b) (gV c (some c) (some d))))=some (a||(b||(c||d))):=by cases a<;>cases b<;>cases c<;>cases d<;>rfl
theorem aFb {s:Str}{p:Nat}(h:p<=s.length):sub' s (p:Int) (s.length:Int)=some (s.drop p):=by
 unfold sub';rw [if_pos ⟨by omega,by omega,by omega⟩,Int.toNat_natCast];congr 1;rw [List.take_of_length_le (by rw [List.length_drop];omega)]
theorem blanks_eq (x:gB) (s:Str) (p:Nat) (u:x.text=s) (v:x.at_=(p:Int)) (j:p<=s.length) (hs:s.length<=1000000):
  Fbl x=some (gB.mk s ((p+skL (s.drop p):Nat):Int) x.now x.r):=by
 unfold Fbl Ffl;rw [v];refine nK (λ(p:Nat)=>(p:Int)) (λp=>s.length-p) (λp=>p<=s.length) (λp=>some (gB.mk s ((p+skL (s.drop p):Nat):Int) x.now x.r)) (λk p j l=>?_) p j (by omega);simp only [zS,u]
 by_cases q:p<s.length
 ·obtain⟨c,w,g⟩:=drop_at q;rw [dT (by omega:(p:Int)<(s.length:Int)),zI,aA w,zA,or4,zA,<-aKn]
  by_cases d:aGg c=true
  ·rw [d,zI,dM q (by omega),l (p+1) (by omega) (by omega),g,skL,if_pos d]
   congr 3;omega
  ·have m:aGg c=false:=by simpa using d
   rw [m,zH];have n:decide ((c.toNat:Int)=35)=(c==35):=bI c 35;rw [n]
   by_cases h:(c==35)=true
   ·have b:c=35:=by simpa using h
    rw [h,zI,aFb j,zA];unfold Fen Fez;rw [show((10:Int).toNat.toUInt8)=10 from rfl,idx_nl,zA,zA];have e:skL (s.drop p)=nl (s.drop p)+skL ((s.drop p).drop (nl (s.drop p))):=by
     rw [g,skL,if_neg d,if_pos (by rw [b];rfl),aJa,jX,if_neg (by rw [b];decide),List.drop_succ_cons];omega
    have B:1<=nl (s.drop p):=by rw [g,jX,if_neg (by rw [b];decide)];omega
    have A:=aKc (s.drop p);rw [List.length_drop]at A
    by_cases z:nl (s.drop p)=(s.drop p).length
    ·rw [if_pos z,dT (by decide),zI,wrap_i64 (by omega) (by omega),zA,wrap_i64 (by omega) (by omega),show(p:Int)+((s.length:Int)-(p:Int))=((s.length:Nat):Int)by omega,l s.length (Nat.le_refl _) (by omega)];rw [e,z,List.drop_length,List.drop_length,List.length_drop]
     congr 3;omega
    ·rw [if_neg z,qD (by omega),zH,zA,wrap_i64 (by omega) (by omega),show(p:Int)+((nl (s.drop p):Nat):Int)=((p+nl (s.drop p):Nat):Int)by omega,l (p+nl (s.drop p)) (by omega) (by omega),e,List.drop_drop]
     congr 3;omega
   ·have o:(c==35)=false:=by simpa using h
    rw [o,zH,g,skL,if_neg d,if_neg (by simpa using h)];rfl
 ·have:p=s.length:=by omega
  subst this;rw [qD (by omega: ¬((s.length:Nat):Int)<(s.length:Int)),zH,List.drop_length,skL];rfl
theorem rblank_eq (c:UInt8):Fdn (c.toNat:Int)=some (aGg c):=by
 unfold Fdn;rw [aKn];simp only [zS];cases decide ((c.toNat:Int)=32)<;>cases decide ((c.toNat:Int)=9)<;>cases decide ((c.toNat:Int)=10)<;>cases decide ((c.toNat:Int)=13)<;>rfl
theorem skip_L2 (s:Str) (k:Int->Option Int) (p:Nat) (d:p<=s.length) (hs:s.length<=1000000):Fe2 s k (p:Int)=k ((p+nl (s.drop p):Nat):Int):=by
 unfold Fe2;refine nK (λ(p:Nat)=>(p:Int)) (λp=>s.length-p) (λp=>p<=s.length) (λp=>k ((p+nl (s.drop p):Nat):Int)) (λ_ p d l=>?_) p d (by omega);simp only [zS]
 by_cases g:p<s.length
 ·obtain⟨c,m,j⟩:=drop_at g;have b:decide ((c.toNat:Int)=10)=(c==10):=bI c 10;rw [dT (by omega:(p:Int)<(s.length:Int)),zI,aA m,zA,zA]
  by_cases h:c=10
  ·rw [show decide ((c.toNat:Int)≠10)=false by rw [h];rfl,zH,j,jX,if_pos h];rfl
  ·have e:decide ((c.toNat:Int)≠10)=true:=by
    have:decide ((c.toNat:Int)=10)=false:=by rw [b];simpa using h
    simpa using this
   rw [e,zI,dM g (by omega),l (p+1) (by omega) (by omega),j,jX,if_neg h]
   congr 2;omega
 ·have:p=s.length:=by omega
  subst this;rw [qD (by omega: ¬((s.length:Nat):Int)<(s.length:Int)),zH,zA,zH,List.drop_length];rfl
theorem aAp (s:Str) (p:Nat) (h:p<=s.length) (hs:s.length<=1000000):Fbx s (p:Int)=some ((p+skL (s.drop p):Nat):Int):=by
 unfold Fbx;have j:Fec s (p:Int)=some ((p+skL (s.drop p):Nat):Int):=by
  unfold Fec;refine nK (λ(p:Nat)=>(p:Int)) (λp=>s.length-p) (λp=>p<=s.length) (λp=>some ((p+skL (s.drop p):Nat):Int)) (λk p h n=>?_) p h (by omega);simp only [zS]
  by_cases o:p<s.length
  ·obtain⟨c,q,g⟩:=drop_at o;rw [dT (by omega:(p:Int)<(s.length:Int)),zI,aA q,zA,rblank_eq,zA]
   by_cases d:aGg c=true
   ·rw [d,zI,dM o (by omega),n (p+1) (by omega) (by omega),g,skL,if_pos d]
    congr 2;omega
   ·have l:aGg c=false:=by simpa using d
    rw [l,zH,zA]
    by_cases b:c=35
    ·rw [show decide ((c.toNat:Int)≠35)=false by rw [b];rfl,zH,skip_L2 s k p h hs];have e:skL (s.drop p)=nl (s.drop p)+skL ((s.drop p).drop (nl (s.drop p))):=by
      rw [g,skL,if_neg d,if_pos (by rw [b];rfl),aJa,jX,if_neg (by rw [b];decide),List.drop_succ_cons];omega
     have u:1<=nl (s.drop p):=by rw [g,jX,if_neg (by rw [b];decide)];omega
     have r:=aKc (s.drop p);rw [List.length_drop]at r;rw [n (p+nl (s.drop p)) (by omega) (by omega),e,List.drop_drop]
     congr 2;omega
    ·have m:decide ((c.toNat:Int)=35)=(c==35):=bI c 35;have e:decide ((c.toNat:Int)≠35)=true:=by
      have:decide ((c.toNat:Int)=35)=false:=by rw [m];simpa using b
      simpa using this
     rw [e,zI,g,skL,if_neg d,if_neg (by simpa using b)];rfl
  ·have:p=s.length:=by omega
   subst this;rw [qD (by omega: ¬((s.length:Nat):Int)<(s.length:Int)),zH,List.drop_length,skL];rfl
 rw [j,zA]
def kE (c:UInt8):Bool:=decide (48<=c.toNat)&&decide (c.toNat<=57)
def aJ (a:Nat)(l:Str):Nat:=l.foldl (λn c=>10*n+(c.toNat-48)) a
theorem aCs (a:Nat)(l:Str)(c:UInt8):aJ a (l++[c])=10*aJ a l+(c.toNat-48):=by unfold aJ;rw [List.foldl_append];rfl
theorem aU (c:UInt8):kE c=true↔48<=c.toNat/\c.toNat<=57:=by unfold kE;rw [Bool.and_eq_true,decide_eq_true_eq,decide_eq_true_eq]
theorem pu_of: ∀(l:Str) (a k:Nat),l.all kE=true->a<10^k->k+l.length<=16->Lib.parseUint10 a l= .ok (aJ a l)
 | [],a,k,_,_,_=>by rw [Lib.parseUint10];rfl
 |c::l,a,k,h,d,b=>by
  rw [List.all_cons,Bool.and_eq_true]at h;have q:=(aU c).1 h.1;rw [List.length_cons]at b;have e:10^k<=10^15:=Nat.pow_le_pow_right (by decide) (by omega);have p2:(10:Nat)^15=1000000000000000:=by decide
  have g:10^(k+1)=10^k*10:=Nat.pow_succ 10 k;rw [Lib.parseUint10,if_pos q,if_neg (by omega),if_neg (by omega),pu_of l (a*10+(c.toNat-48)) (k+1) h.2 (by omega) (by omega)];unfold aJ;rw [List.foldl_cons,Nat.mul_comm]
theorem aAi: ∀(l:Str) (a k:Nat),l.all kE=true->a<10^k->aJ a l<10^(k+l.length)
 | [],a,k,_,b=>b
 |c::l,a,k,h,b=>by
  rw [List.all_cons,Bool.and_eq_true]at h;have q:=(aU c).1 h.1;have d:10^(k+1)=10^k*10:=Nat.pow_succ 10 k;have:=aAi l (10*a+(c.toNat-48)) (k+1) h.2 (by omega);rw [List.length_cons,show k+(l.length+1)=k+1+l.length by omega];exact this
theorem aDq: ∀(l:Str) (a:Nat),a<=aJ a l
 | [],_=>Nat.le_refl _
 |c::l,a=>by
  have:=aDq l (10*a+(c.toNat-48));show a<=aJ (10*a+(c.toNat-48)) l;omega
def aFp (d:Str):Prop:=d≠[]/\d.all kE=true/\(d.head? =some 48->d.length=1)
theorem dg_of {c:UInt8}(h:kE c=true):UInt8.ofNat (48+(c.toNat-48))=c:=by
 have q:=(aU c).1 h;rw [show 48+(c.toNat-48)=c.toNat by omega];exact UInt8.ofNat_toNat
theorem aJl {m:Nat}(h:m<10):Lib.decDigits m=[UInt8.ofNat (48+m)]:=Lib.decDigits_one h
theorem aHm {m:Nat}(h: ¬m<10):Lib.decDigits m=Lib.decDigits (m/10)++[UInt8.ofNat (48+m%10)]:=by
 conv=>lhs;rw [Lib.decDigits,dif_neg h]
theorem aEg: ∀(n:Nat) (d:Str),d.length=n->aFp d->Lib.decDigits (aJ 0 d)=d
 |0,d,m,h=>absurd (List.eq_nil_of_length_eq_zero m) h.1
 |n+1,d,m,h=>by
  obtain⟨e,c,rfl⟩: ∃e c,d=e++[c]:=⟨d.dropLast,d.getLast h.1,(List.dropLast_concat_getLast h.1).symm⟩;obtain⟨-,l,p⟩:=h;rw [List.all_append,Bool.and_eq_true]at l;have o:kE c=true:=by simpa using l.2
  have q:=(aU c).1 o;rw [aCs]
  cases e with
  |nil=>
   show Lib.decDigits (10*0+(c.toNat-48))=[c];rw [aJl (by omega),show 48+(10*0+(c.toNat-48))=48+(c.toNat-48)by omega,dg_of o]
  |cons b e=>
   have r:kE b=true:=by have:=l.1;rw [List.all_cons,Bool.and_eq_true]at this;exact this.1
   have w:=(aU b).1 r;have g:b≠48:=λj=>by
    have:=p (by rw [j];rfl);simp at this
   have u:1<=b.toNat-48:=by
    have:b.toNat≠48:=λj=>g (UInt8.toNat_inj.1 j)
    omega
   have v1:1<=aJ 0 (b::e):=by
    have:=aDq e (10*0+(b.toNat-48));show 1<=aJ (10*0+(b.toNat-48)) e;omega
   have v:=aEg n (b::e) (by simpa using m) ⟨by simp,l.1,λj=>absurd (oI j) g⟩;rw [aHm (by omega),show(10*aJ 0 (b::e)+(c.toNat-48))/10=aJ 0 (b::e)by omega,show(10*aJ 0 (b::e)+(c.toNat-48))%10=c.toNat-48 by omega,v,dg_of o]
theorem of_dig {k:Nat}(h:k<10):(UInt8.ofNat (48+k)).toNat=48+k:=by
 rw [UInt8.toNat_ofNat'];omega
theorem aEb: ∀(n m:Nat),m<n->aFp (Lib.decDigits m)/\aJ 0 (Lib.decDigits m)=m
 |0,m,h=>by omega
 |n+1,m,h=>by
  by_cases c:m<10
  ·rw [aJl c];have e:=of_dig c;refine⟨⟨by simp,?_,λ_=>rfl⟩,?_⟩
   ·simp only [List.all_cons,List.all_nil,Bool.and_true];exact(aU _).2 (by omega)
   ·show 10*0+((UInt8.ofNat (48+m)).toNat-48)=m;omega
  ·obtain⟨⟨g,j,o⟩,d⟩:=aEb n (m/10) (by omega);have e:=of_dig (k:=m%10) (by omega);rw [aHm c];refine⟨⟨by simp,?_,λhh=>?_⟩,?_⟩
   ·rw [List.all_append,j,Bool.true_and];simp only [List.all_cons,List.all_nil,Bool.and_true];exact(aU _).2 (by omega)
   ·have hh:(Lib.decDigits (m/10)).head? =some 48:=by
     cases hz:Lib.decDigits (m/10)with
     |nil=>exact absurd hz g
     |cons a _=>rw [hz]at hh;exact hh
    have l1:=o hh;obtain⟨x,p⟩:=List.length_eq_one_iff.1 l1;rw [p]at hh d;have b:=oI hh;subst b;have q:aJ 0 [48]=0:=rfl;omega
   ·rw [aCs,d];omega
def trm (t:Str):Str:=if t.head? =some 45 then t.tail else t
def qH (t:Str):Option Int:=
 if trm t=[]\/16<(trm t).length\/((trm t).head? =some 48/\(1<(trm t).length\/1<t.length))\/(trm t).all kE=false then none
 else some (if t.head? =some 45 then-((aJ 0 (trm t):Nat):Int)else((aJ 0 (trm t):Nat):Int))
def aGx (t:Str):Option Int:=match Lib.atoiAll t with | .ok v=>if Lib.itoa v=t/\(trm t).length<=16 then some v else none|_=>none
theorem aBy {d:Str}(h:aFp d){c:UInt8}(b:d.head? =some c):kE c=true:=by
 cases d with
 |nil=>cases b
 |cons a d=>
  obtain rfl:=oI b;have:=h.2.1;rw [List.all_cons,Bool.and_eq_true]at this;exact this.1
theorem aJe {t:Str}(h:aFp t):t.head? ≠some 45:=λe=>by
 have:=(aU 45).1 (aBy h e);exact absurd this (by decide)
theorem numR_pos {d:Str}(h:aFp d)(g:d.length<=16):qH d=some ((aJ 0 d:Nat):Int):=by
 have b:=aJe h;unfold qH trm;rw [if_neg b,if_neg b,if_neg];rintro(e|e|⟨c,_⟩|e);exact h.1 e;omega;have:=h.2.2 c;omega;rw [h.2.1]at e;cases e
theorem numR_neg {d:Str}(h:aFp d)(b:d.head? ≠some 48)(g:d.length<=16):qH (45::d)=some (-((aJ 0 d:Nat):Int)):=by
 have e:trm (45::d)=d:=rfl;unfold qH;rw [e,if_neg,if_pos (by rfl)];rintro(e|e|⟨c,_⟩|e);exact h.1 e;omega;exact b c;rw [h.2.1]at e;cases e
theorem num_eq {t:Str} (J:t≠[]):aGx t=qH t:=by
 have p: ∀v,aGx t=some v->qH t=some v:=by
  intro v h;unfold aGx at h;split at h
  ·rename_i w _;split at h
   ·rename_i q;obtain rfl:=oI h;obtain⟨c,j⟩:=q
    by_cases d:w<0
    ·obtain⟨⟨F,c2,c3⟩,c4⟩:=aEb (w.natAbs+1) w.natAbs (by omega);have e:Lib.itoa w=45::Lib.decDigits w.natAbs:=by unfold Lib.itoa;rw [if_pos d]
     rw [e]at c;subst c;have r:(Lib.decDigits w.natAbs).length<=16:=j;rw [numR_neg ⟨F,c2,c3⟩ (λhh=>?_) r,c4]
     ·congr 1;omega
     ·have l1:=c3 hh;obtain⟨x,G⟩:=List.length_eq_one_iff.1 l1;rw [G]at hh c4;have u:=oI hh;subst u;have M:aJ 0 [48]=0:=rfl;omega
    ·obtain⟨C,c4⟩:=aEb (w.toNat+1) w.toNat (by omega);have e:Lib.itoa w=Lib.decDigits w.toNat:=by unfold Lib.itoa;rw [if_neg d]
     rw [e]at c;subst c;have g:=aJe C;unfold trm at j;rw [if_neg g]at j;rw [numR_pos C j,c4]
     congr 1;omega
   ·cases h
  ·cases h
 have z: ∀v,qH t=some v->aGx t=some v:=by
  intro v h;unfold qH at h;split at h
  ·cases h
  ·rename_i q;obtain rfl:=oI h;simp only [not_or,not_and,Nat.not_lt]at q;obtain⟨c,j,m,l⟩:=q;have l:(trm t).all kE=true:=by simpa using l
   have o:Lib.parseMag (trm t)= .ok (aJ 0 (trm t)):=by
    unfold Lib.parseMag;rw [if_neg c,pu_of (trm t) 0 0 l (by decide) (by omega)]
   have D:=aAi (trm t) 0 0 l (by decide);have E:10^(0+(trm t).length)<=10^16:=Nat.pow_le_pow_right (by decide) (by omega);have p2:(10:Nat)^16=10000000000000000:=by decide
   by_cases g:t.head? =some 45
   ·obtain⟨d,rfl⟩: ∃d,t=45::d:=by
     cases t with
     |nil=>cases g
     |cons a d=>exact⟨d,by rw [oI g]⟩
    have e:trm (45::d)=d:=rfl;rw [e]at c j m l o D E;have n:aFp d:=⟨c,l,λhh=>by
     have:=(m hh).2;rw [List.length_cons]at this;have:=List.length_pos_iff.2 c;omega⟩
    have A:d.head? ≠some 48:=λhh=>by
     have:=(m hh).2;rw [List.length_cons]at this;have:=List.length_pos_iff.2 c;omega
    have v1:1<=aJ 0 d:=by
     cases d with
     |nil=>exact absurd rfl c
     |cons b d=>
      have H:=(aU b).1 (aBy n rfl);have:b.toNat≠48:=λI=>A (by show some b=some 48;congr 1;exact UInt8.toNat_inj.1 I)
      have:=aDq d (10*0+(b.toNat-48));show 1<=aJ (10*0+(b.toNat-48)) d;omega
    have B:Lib.atoiAll (45::d)= .ok (-((aJ 0 d:Nat):Int)):=by
     rw [Lib.atoiAll_minus,o];unfold Lib.signed;dsimp only;rw [if_neg (by omega)]
    unfold aGx;rw [B,if_pos g,e];dsimp only;rw [if_pos];refine⟨?_,j⟩;unfold Lib.itoa;rw [if_pos (by omega),show(-((aJ 0 d:Nat):Int)).natAbs=aJ 0 d by omega,aEg _ d rfl n]
   ·have e:trm t=t:=by unfold trm;rw [if_neg g]
    rw [e]at c j m l o D E;have n:aFp t:=⟨c,l,λhh=>by
     have:=(m hh).2;have:=List.length_pos_iff.2 c;omega⟩
    have B:Lib.atoiAll t= .ok ((aJ 0 t:Nat):Int):=by
     cases t with
     |nil=>exact absurd rfl c
     |cons b d=>
      have H:=(aU b).1 (aBy n rfl);rw [Lib.atoiAll_plain b d (by omega) (by omega),o];unfold Lib.signless;dsimp only;rw [if_neg (by omega)]
    unfold aGx;rw [B,if_neg g,e];dsimp only;rw [if_pos];refine⟨?_,j⟩;unfold Lib.itoa;rw [if_neg (by omega),Int.toNat_natCast,aEg _ t rfl n]
 cases h:aGx t with
 |some v=>rw [p v h]
 |none=>
  cases h2:qH t with
  |none=>rfl
  |some v=>rw [z v h2]at h;cases h
def nb (c:UInt8):Bool:=nmB (c.toNat:Int)
def rn (l:Str):Nat:=(l.takeWhile nb).length
theorem wG (c:UInt8)(l:Str):rn (c::l)=if nb c=true then rn l+1 else 0:=by
 unfold rn;rw [List.takeWhile_cons];split<;>rfl
theorem aFt: ∀l:Str,rn l<=l.length
 | []=>Nat.le_refl _
 |c::l=>by
  have:=aFt l;rw [wG,List.length_cons];split<;>omega
theorem aGd (c:Int):Fb5 c=some (nmB c):=by
 unfold Fb5 Fex Fa3 nmB;simp only [zS];cases decide (97<=c)<;>cases decide (c<=122)<;>cases decide (48<=c)<;>cases decide (c<=57)<;>cases decide (c=45)<;>rfl
theorem adv_L1 (x:gB) (s:Str) (h:x.text=s) (p:Nat) (d:p<=s.length) (hs:s.length<=1000000):Fd3 x (p:Int)=some ((p+rn (s.drop p):Nat):Int):=by
 unfold Fd3;refine nK (λ(p:Nat)=>(p:Int)) (λp=>s.length-p) (λp=>p<=s.length) (λp=>some ((p+rn (s.drop p):Nat):Int)) (λk p d j=>?_) p d (by omega);simp only [zS,h];by_cases e:p<s.length;obtain⟨c,l,m⟩:=drop_at e;rw [dT (by omega:(p:Int)<(s.length:Int)),zI,aA l,zA,xU,zA,zA,m,wG];show gV (nb c) _ _=_;by_cases g:nb c=true;rw [g,zI,dM e (by omega),j (p+1) (by omega) (by omega),if_pos rfl];congr 2;omega;have b:nb c=false:=by simpa using g
 rw [b,zH,if_neg (by decide)];rfl;have:p=s.length:=by omega
 subst this;rw [qD (by omega: ¬((s.length:Nat):Int)<(s.length:Int)),zH,zA,zH,List.drop_length];rfl
theorem tok_L1 (s:Str) (p:Nat) (d:p<=s.length) (hs:s.length<=1000000):Ffc s (p:Int)=some ((p+rn (s.drop p):Nat):Int):=by
 unfold Ffc;refine nK (λ(p:Nat)=>(p:Int)) (λp=>s.length-p) (λp=>p<=s.length) (λp=>some ((p+rn (s.drop p):Nat):Int)) (λk p d h=>?_) p d (by omega);simp only [zS];by_cases e:p<s.length;obtain⟨c,j,l⟩:=drop_at e;rw [dT (by omega:(p:Int)<(s.length:Int)),zI,aA j,zA,aGd,zA,zA,l,wG];show gV (nb c) _ _=_;by_cases g:nb c=true;rw [g,zI,dM e (by omega),h (p+1) (by omega) (by omega),if_pos rfl];congr 2;omega;have b:nb c=false:=by simpa using g
 rw [b,zH,if_neg (by decide)];rfl;have:p=s.length:=by omega
 subst this;rw [qD (by omega: ¬((s.length:Nat):Int)<(s.length:Int)),zH,zA,zH,List.drop_length];rfl
def knd (t:Str):Int×Int:=if isW t=true then(1,0)else if nV t=true then(2,0)else match qH t with |some n=>(3,n)|none=>(6,0)
theorem trimP_eq (t:Str) (e:t.length<=1000000):Fc7 t [45]=some (trm t):=by
 unfold Fc7 Fe7 Fb0 trm;simp only [zS]
 cases t with
 |nil=>rfl
 |cons c t=>
  rw [dT (by simp only [List.length_cons,List.length_nil];omega:(([45]:Str).length:Int)<=((c::t).length:Int)),zI];have b:sub' (c::t) 0 (([45]:Str).length:Int)=some [c]:=by unfold sub';rw [if_pos ⟨by decide,by decide,by simp only [List.length_cons,List.length_nil];omega⟩];rfl
  rw [b,zA,zA,zA]
  by_cases h:c=45
  ·subst h;rw [dT rfl,zI];have d:sub' ((45:UInt8)::t) (([45]:Str).length:Int) ((45::t:Str).length:Int)=some t:=by
    unfold sub';rw [if_pos ⟨by decide,by simp only [List.length_cons,List.length_nil];omega,Int.le_refl _⟩]
    congr 1
    show(t.take _)=t;refine List.take_of_length_le ?_;simp
   rw [d,zA,zA];rfl
  ·rw [qD (by simpa using h),zH,zA,if_neg (by simpa using h)]
theorem aLq {t:Str}(h:isW t=true):knd t=(1,0):=by unfold knd;rw [if_pos h]
theorem aMk {t:Str}(h:isW t=false)(b:nV t=true):knd t=(2,0):=by unfold knd;rw [if_neg (by rw [h];decide),if_pos b]
theorem aLu {t:Str}(h:isW t=false)(b:nV t=false){n:Int}(c:qH t=some n):knd t=(3,n):=by unfold knd;rw [if_neg (by rw [h];decide),if_neg (by rw [b];decide),c]
theorem aBu {t:Str}(h:isW t=false)(b:nV t=false)(c:qH t=none):knd t=(6,0):=by unfold knd;rw [if_neg (by rw [h];decide),if_neg (by rw [b];decide),c]
theorem run_eq (x:gB) (t:Str) (g:x.now.text=t) (j:t≠[]) (c:t.length<=1000000):
  Fdg x=some (if (knd t).1=6 then .error (gQ.mk x.now.at_ 6)else .ok (gB.mk x.text x.at_ (gK.mk (knd t).1 x.now.at_ (if (knd t).1=3 then(knd t).2 else x.now.n) t) x.r)):=by
 have hs:okS t:=by unfold okS;omega
 unfold Fdg Fc1;simp only [zS,g];rw [if_pos c,zA,aDn];simp only [zA,pV t hs]
 cases hw:isW t with
 |true=>rw [zI,aLq hw];rfl
 |false=>
  rw [zH]
  cases hn:nV t with
  |true=>rw [zI,aMk hw hn];rfl
  |false=>
   rw [zH];have b:=num_eq j;unfold aGx at b;have fl:Fao (some x) 6=some (.error (gQ.mk x.now.at_ 6)):=rfl
   cases ha:Lib.atoiAll t with
   |ok v=>
    rw [ha]at b;dsimp only at b;have d:=Lib.atoiAll_bounds ha;have l:Fat v=some (Lib.itoa v):=by
     unfold Fat Feu Fdx;rw [if_pos ⟨rfl,d.1,d.2⟩];rfl
    dsimp only;rw [zI,l,zA,zA]
    by_cases q:Lib.itoa v=t
    ·rw [dT q,zI,trimP_eq t c,zA]
     by_cases e:(trm t).length<=16
     ·rw [if_pos ⟨q,e⟩]at b;rw [dT (by omega:((trm t).length:Int)<=16),zA,zI,aLu hw hn b.symm];rfl
     ·rw [if_neg (λh=>e h.2)]at b;rw [qD (by omega: ¬((trm t).length:Int)<=16),zA,zH,aBu hw hn b.symm,fl,zA];rfl
    ·rw [if_neg (λh=>q h.1)]at b;rw [qD q,zH,zA,zH,aBu hw hn b.symm,fl,zA];rfl
   |range=>rw [ha]at b;dsimp only at b⊢;rw [zH,zA,zH,zA,zH,aBu hw hn b.symm,fl,zA];rfl
   |_=>rw [ha]at b;dsimp only at b⊢;rw [zH,zA,zH,zA,zH,aBu hw hn b.symm,fl,zA];rfl
theorem digit_eq (c:UInt8):Fa3 (c.toNat:Int)=some (kE c):=by
 unfold Fa3 kE;simp only [zS];rw [show decide ((48:Int)<=(c.toNat:Int))=decide (48<=c.toNat)by rw [decide_eq_decide];omega,show decide ((c.toNat:Int)<=57)=decide (c.toNat<=57)by rw [decide_eq_decide];omega];cases decide (48<=c.toNat)<;>cases decide (c.toNat<=57)<;>rfl
theorem num_L1 (d:Str) (k:Int->Option (Int×Bool)) (K:d.length<=16):Fdj d k (0,0)=if d.all kE=true then k ((aJ 0 d:Nat):Int)else some (0,false):=by
 unfold Fdj;have B:=nK (body:=λb (g:Int×Int)=>
   gU (d.length:Int) λh=>gU (decide (g.2<h)) λj=>gV j
   (gI (byte' d g.2) λl=>gI (Fa3 l) λm=>gU (!m) λo=>gV o (some (0,false))
   (gU (IntKind.i64.wrap (10*g.1)) λp=>gI (byte' d g.2) λr=>gU (IntKind.u8.wrap (r-48)) λu=>gU (IntKind.i64.wrap u) λv=>
   gU (IntKind.i64.wrap (p+v)) λw=>gU (IntKind.i64.wrap (g.2+1)) λA=>b (w,A))) (k g.1))
  (λ(z:Nat×Nat)=>((z.1:Int),(z.2:Int))) (λz=>d.length-z.2) (λz=>z.2<=d.length/\z.1<10^z.2) (λz=>if (d.drop z.2).all kE=true then k ((aJ z.1 (d.drop z.2):Nat):Int)else some (0,false)) (λ_ z E F=>?_) (0,0) ⟨Nat.zero_le _,by decide⟩ (by show d.length-0<=_;omega)
 ·exact B
 ·obtain⟨n,i⟩:=z;obtain⟨G,H⟩:=E;dsimp only at G H⊢;have N:10^i<=10^16:=Nat.pow_le_pow_right (by decide) (by omega);have p2:(10:Nat)^16=10000000000000000:=by decide
  simp only [zS]
  by_cases D:i<d.length
  ·obtain⟨c,I,C⟩:=drop_at D;rw [dT (by omega:(i:Int)<(d.length:Int)),zI,aA I];simp only [zA];rw [digit_eq,zA,C,List.all_cons]
   by_cases q:kE c=true
   ·have O:=(aU c).1 q;rw [q,Bool.not_true,zH,Bool.true_and,show IntKind.u8.wrap ((c.toNat:Int)-48)=(c.toNat:Int)-48 by rw [IntKind.wrap_u8];omega,wrap_i64 (n:=10*(n:Int)) (by omega) (by omega),wrap_i64 (n:=(c.toNat:Int)-48) (by omega) (by omega),wrap_i64 (n:=10*(n:Int)+((c.toNat:Int)-48)) (by omega) (by omega),dM D (by omega)];have e:=F (10*n+(c.toNat-48),i+1) ⟨by omega,by rw [Nat.pow_succ];omega⟩ (by show d.length-(i+1)<d.length-i;omega);dsimp only at e;rw [show 10*(n:Int)+((c.toNat:Int)-48)=((10*n+(c.toNat-48):Nat):Int)by omega,e];rfl
   ·have J:kE c=false:=by simpa using q
    rw [J,Bool.not_false,zI,Bool.false_and,if_neg (by decide)]
  ·have:i=d.length:=by omega
   subst this;rw [qD (by omega: ¬((d.length:Nat):Int)<(d.length:Int)),zH,List.drop_length];rfl
theorem number_eq (t:Str) (E:t≠[]) (G:t.length<=1000000):Fc8 t=some (match qH t with |some n=>(n,true)|none=>(0,false)):=by
 obtain⟨c,r,rfl⟩: ∃c r,t=c::r:=by cases t with |nil=>exact absurd rfl E|cons c r=>exact⟨c,r,rfl⟩
 have D:byte' (c::r) 0=some (c.toNat:Int):=aA (i:=0) rfl;have l:decide ((c.toNat:Int)=45)=(c==45):=bI c 45;have hh:((c::r).head? =some 45)↔c=45:=by simp
 have g11:(gI (byte' (c::r) 0) λu=>gU (decide (u=45)) λw=>gV w (gI (sub' (c::r) 1 ((c::r).length:Int)) λA=>some A) (some (c::r)))=some (trm (c::r)):=by
  simp only [zS];rw [D,zA,l];unfold trm
  by_cases q:c=45
  ·have e:sub' (c::r) 1 ((c::r).length:Int)=some r:=aFb (s:=c::r) (p:=1) (by simp);rw [beq_iff_eq.2 q,zI,e,zA,if_pos (hh.2 q)];rfl
  ·rw [beq_eq_false_iff_ne.2 q,zH,if_neg (λh=>q (hh.1 h))]
 unfold Fc8;rw [g11,zA];simp only [zS,yU];generalize hd:trm (c::r)=d;have B: ∀v:Int,(gI (byte' (c::r) 0) λb=>gV (decide (b=45)) (some (IntKind.i64.wrap (-v))) (some v))=some (if c=45 then IntKind.i64.wrap (-v)else v):=by
  intro v;rw [D,zA,l]
  by_cases q:c=45
  ·rw [beq_iff_eq.2 q,zI,if_pos q]
  ·rw [beq_eq_false_iff_ne.2 q,zH,if_neg q]
 unfold qH;rw [hd]
 by_cases d0:d=[]
 ·rw [if_pos (Or.inl d0),dT d0,zI,zA,zI,zA,zI]
 ·rw [qD d0,zH,zA]
  by_cases d16:16<d.length
  ·rw [if_pos (Or.inr (Or.inl d16)),dT (by omega:(16:Int)<(d.length:Int)),zI,zA,zI]
  ·rw [qD (by omega: ¬(16:Int)<(d.length:Int)),zH];obtain⟨a,e,rfl⟩: ∃a e,d=a::e:=by cases d with |nil=>exact absurd rfl d0|cons a e=>exact⟨a,e,rfl⟩
   have F:byte' (a::e) 0=some (a.toNat:Int):=aA (i:=0) rfl;have C:decide ((a.toNat:Int)=48)=(a==48):=bI a 48;rw [F,zA,C];have fin:(gI (Fdj (a::e) (λj=>gI (gI (byte' (c::r) 0) λb=>gV (decide (b=45)) (some (IntKind.i64.wrap (-j))) (some j)) λm=>some (m,true)) (0,0)) λz=>some z)=some (if (a::e).all kE=true then(if c=45 then-((aJ 0 (a::e):Nat):Int)else((aJ 0 (a::e):Nat):Int),true)else(0,false)):=by
    rw [num_L1 _ _ (by omega)]
    by_cases q:(a::e).all kE=true
    ·have H:=aAi (a::e) 0 0 q (by decide);have I:10^(0+(a::e).length)<=10^16:=Nat.pow_le_pow_right (by decide) (by omega);have p2:(10:Nat)^16=10000000000000000:=by decide
     rw [if_pos q,B,zA,zA,if_pos q]
     by_cases z:c=45
     ·rw [if_pos z,if_pos z,wrap_i64 (by omega) (by omega)]
     ·rw [if_neg z,if_neg z]
    ·rw [if_neg q,if_neg q,zA]
   rw [show ∀o:Option (Int×Bool),(gI o λz=>some z)=o from λo=>by cases o<;>rfl]at fin;have tail:some (if (a::e).all kE=true then(if c=45 then-((aJ 0 (a::e):Nat):Int)else((aJ 0 (a::e):Nat):Int),true)else(0,false))=some (match (if (a::e).all kE=false then none else some (if (c::r).head? =some 45 then-((aJ 0 (a::e):Nat):Int)else((aJ 0 (a::e):Nat):Int)))with |some n=>(n,true)|none=>((0:Int),false)):=by
    cases q:(a::e).all kE with
    |true=>
     by_cases z:c=45
     ·rw [if_pos rfl,if_pos z,if_neg (by decide),if_pos (hh.2 z)]
     ·rw [if_pos rfl,if_neg z,if_neg (by decide),if_neg (λh=>z (hh.1 h))]
    |false=>rw [if_neg (by decide),if_pos rfl]
   by_cases g:a=48
   ·rw [beq_iff_eq.2 g,zI]
    by_cases l1:1<(a::e).length
    ·rw [dT (by omega:(1:Int)<((a::e).length:Int)),zI,zA,zI,if_pos];exact Or.inr (Or.inr (Or.inl ⟨by rw [g];rfl,Or.inl l1⟩))
    ·rw [qD (by omega: ¬(1:Int)<((a::e).length:Int)),zH]
     by_cases l2:1<(c::r).length
     ·rw [dT (by omega:(1:Int)<((c::r).length:Int)),zA,zI,if_pos];exact Or.inr (Or.inr (Or.inl ⟨by rw [g];rfl,Or.inr l2⟩))
     ·rw [qD (by omega: ¬(1:Int)<((c::r).length:Int)),zA,zH,fin,tail]
      congr 3
      rw [show((a::e)=[]\/16<(a::e).length\/((a::e).head? =some 48/\(1<(a::e).length\/1<(c::r).length))\/(a::e).all kE=false)=((a::e).all kE=false)from propext ⟨λh=>by
       rcases h with h|h|⟨-,h|h⟩|h
       ·cases h
       ·exact absurd h d16
       ·exact absurd h l1
       ·exact absurd h l2
       ·exact h,λh=>Or.inr (Or.inr (Or.inr h))⟩]
   ·rw [beq_eq_false_iff_ne.2 g,zH,zA,zH,fin,tail]
    congr 3
    rw [show((a::e)=[]\/16<(a::e).length\/((a::e).head? =some 48/\(1<(a::e).length\/1<(c::r).length))\/(a::e).all kE=false)=((a::e).all kE=false)from propext ⟨λh=>by
     rcases h with h|h|⟨h,-⟩|h
     ·cases h
     ·exact absurd h d16
     ·exact absurd (oI h) g
     ·exact h,λh=>Or.inr (Or.inr (Or.inr h))⟩]
theorem rrun_eq (t:Str) (p:Int) (h:t≠[]) (j:t.length<=1000000):Fcw t p=some (gW.mk (knd t).1 p t (knd t).2):=by
 have hs:okS t:=by unfold okS;omega
 unfold Fcw;rw [xW,zA]
 cases hw:isW t with
 |true=>rw [zI,zA,aLq hw];rfl
 |false=>
  rw [zH,kS t hs,zA]
  cases hn:nV t with
  |true=>rw [zI,zA,aMk hw hn];rfl
  |false=>
   rw [zH];obtain⟨c,r,rfl⟩: ∃c r,t=c::r:=by cases t with |nil=>exact absurd rfl h|cons c r=>exact⟨c,r,rfl⟩
   have l:byte' (c::r) 0=some (c.toNat:Int):=aA (i:=0) rfl;have d:decide ((c.toNat:Int)=45)=(c==45):=bI c 45;simp only [zS];rw [l,zA,digit_eq,zA,zA,d];have g:(gV (kE c) (some true) (some (c==45)))=some (kE c||c==45):=by cases kE c<;>rfl
   rw [g,zA]
   by_cases q:(kE c||c==45)=true
   ·rw [q,zI,number_eq _ h j,zA]
    cases hr:qH (c::r)with
    |some _=>rw [aLu hw hn hr];rfl
    |none=>rw [aBu hw hn hr];rfl
   ·have b:(kE c||c==45)=false:=by simpa using q
    rw [b,zH];rw [Bool.or_eq_false_iff]at b;have m:qH (c::r)=none:=by
     unfold qH;have e:trm (c::r)=c::r:=by
      unfold trm;rw [if_neg];have:=beq_eq_false_iff_ne.1 b.2;simpa using this
     rw [if_pos];rw [e,List.all_cons,b.1];exact Or.inr (Or.inr (Or.inr rfl))
    rw [aBu hw hn m];rfl
def sgn:Str->Option (Str×Int×Int)
 | []=>none
 |c::l=>
  if c=40 then some ([40],5,0)else if c=41 then some ([41],5,0)
  else if c=60 then(if l.head? =some 61 then some ([60,61],4,2)else some ([60],4,1))
  else if c=61 then some ([61],4,3)
  else if c=33 then(if l.head? =some 61 then some ([33,61],4,4)else none)
  else if c=62 then(if l.head? =some 61 then some ([62,61],4,5)else some ([62],4,6))
  else none
theorem vU (c:UInt8)(l:Str):sgn (c::l)=if c=40 then some ([40],5,0)else if c=41 then some ([41],5,0)
  else if c=60 then(if l.head? =some 61 then some ([60,61],4,2)else some ([60],4,1))
  else if c=61 then some ([61],4,3)
  else if c=33 then(if l.head? =some 61 then some ([33,61],4,4)else none)
  else if c=62 then(if l.head? =some 61 then some ([62,61],4,5)else some ([62],4,6))
  else none:=rfl
theorem tk_snoc {α:Type}{l:List α}{i:Nat}{x:α}(b:l[i]? =some x):l.take (i+1)=l.take i++[x]:=by rw [List.take_add_one,b];rfl
def prf (l d:Str):Bool:=decide (d.length<=l.length)&&decide (l.take d.length=d)
theorem hasP_eq (l d:Str)(_:l.length<=1000000):Fct l d=some (prf l d):=by
 unfold Fct Fb0 prf;simp only [zS];by_cases h:d.length<=l.length;rw [dT (by omega:(d.length:Int)<=(l.length:Int)),zI,sub_nat l h,zA,zA,zA,dT h,Bool.true_and];rw [qD (by omega: ¬(d.length:Int)<=(l.length:Int)),zH,zA,zA,qD h,Bool.false_and]
def sgP:List Str:=[[60,61],[33,61],[62,61],[60],[61],[62],[40],[41]]
theorem prf1 (a c:UInt8)(l:Str):prf (c::l) [a]=decide (c=a):=by
 unfold prf;rw [dT (by simp),Bool.true_and];show decide ([c]=[a])=_;rw [decide_eq_decide];simp
theorem prf2 (a b c:UInt8)(l:Str):prf (c::l) [a,b]=(decide (c=a)&&decide (l.head? =some b)):=by
 unfold prf
 cases l with
 |nil=>simp
 |cons d l=>
  rw [dT (by simp),Bool.true_and];show decide ([c,d]=[a,b])=(decide (c=a)&&decide (some d=some b));rw [<-Bool.decide_and,decide_eq_decide];simp
def fstS (l:Str):Option Str:=sgP.find? λd=>prf l d
theorem fst_sgn {l:Str} (h:l≠[]):fstS l=(sgn l).map λz=>z.1:=by
 obtain⟨c,r,rfl⟩: ∃c r,l=c::r:=by cases l with |nil=>exact absurd rfl h|cons c r=>exact⟨c,r,rfl⟩
 unfold fstS sgP sgn;simp only [List.find?_cons,prf1,prf2,List.find?_nil]
 by_cases q:r.head? =some 61
 ·rw [dT q];simp only [Bool.and_true,if_pos q]
  by_cases b:c=60
  ·subst b;rfl
  ·by_cases m:c=33
   ·subst m;rfl
   ·by_cases d:c=62
    ·subst d;rfl
    ·by_cases e:c=61
     ·subst e;rfl
     ·by_cases g:c=40
      ·subst g;rfl
      ·by_cases j:c=41
       ·subst j;rfl
       ·simp [b,m,d,e,g,j]
 ·rw [qD q];simp only [Bool.and_false,if_neg q]
  by_cases b:c=60
  ·subst b;rfl
  ·by_cases d:c=62
   ·subst d;rfl
   ·by_cases e:c=61
    ·subst e;rfl
    ·by_cases g:c=40
     ·subst g;rfl
     ·by_cases j:c=41
      ·subst j;rfl
      ·simp [b,d,e,g,j]
theorem aAn {l t:Str}{k n:Int}(h:sgn l=some (t,k,n)):1<=t.length/\t.length<=l.length/\(k=4\/k=5)/\t≠[]/\t.length<=2:=by
 cases l with
 |nil=>cases h
 |cons c r=>
  rw [vU]at h;have b:r.head? =some 61->2<=(c::r).length:=λe=>by cases r with |nil=>cases e|cons a r=>simp
  repeat' split at h
  all_goals first
   |(injection h with h;injection h with h1 h2;injection h2 with h2 h3;subst h1;subst h2;refine⟨by decide,?_,by decide,by decide,by decide⟩;first |exact b (by assumption)|simp)
   |cases h
theorem adv_L2 (b x:gB) (k:Unit->Option (Except gQ gB)) (s:Str) (p:Nat) (h:x.text=s) (j:x.at_=(p:Int)) (m:p<=s.length) (hs:s.length<=1000000):
  Feg b x k ((sgP.length:Nat):Int) 0=match fstS (s.drop p)with |some d=>some (.ok (gB.mk s ((p+d.length:Nat):Int) (gK.mk 4 p 0 d) (Rules.mk b.r.Phases b.r.Moves b.r.Rules)))|none=>k ():=by
 unfold Feg;have g: ∀(l:List Str) (i:Nat),(∀d∈l,d.length<=2)->aH (λ(_:Nat) d=>if prf (s.drop p) d=true then some (some (Except.ok (gB.mk s ((p+d.length:Nat):Int) (gK.mk 4 p 0 d) (Rules.mk b.r.Phases b.r.Moves b.r.Rules))))else none) (k ()) l i=match l.find? (λd=>prf (s.drop p) d)with |some d=>some (.ok (gB.mk s ((p+d.length:Nat):Int) (gK.mk 4 p 0 d) (Rules.mk b.r.Phases b.r.Moves b.r.Rules)))|none=>k ():=by
  intro l
  induction l with
  |nil=>intro i _;rfl
  |cons d l n=>
   intro i c;rw [aH,List.find?_cons]
   cases q:prf (s.drop p) d with
   |true=>rfl
   |false=>exact n (i+1) λe o=>c e (List.mem_cons_of_mem _ o)
 rw [show fstS (s.drop p)=sgP.find? (λd=>prf (s.drop p) d)from rfl,<-g sgP 0 (by decide)];refine yZ sgP _ _ (by decide) ?_ ?_
 ·intro u i d c hi;have d2:d.length<=2:=(by decide: ∀d∈sgP,d.length<=2) d (mG c);simp only [zS];have a:at' ([[60,61],[33,61],[62,61],[60],[61],[62],[40],[41]]:List Str) (i:Int)=some d:=bD c;rw [xJ hi,zI,a,zA,j,h,aFb m,zA,hasP_eq _ _ (by rw [List.length_drop];omega),zA]
  cases q:prf (s.drop p) d with
  |true=>rw [zI,wrap_i64 (by omega) (by omega),if_pos rfl];rfl
  |false=>rw [zH,if_neg (by decide),dM hi (by decide)]
 ·intro u;simp only [zS];rw [xI,zH]
def tX:List Str:=[[60],[60,61],[61],[33,61],[62,61],[62]]
def bst (l:Str):List Str->Str->Str
 | [],b=>b
 |d::c,b=>bst l c (if prf l d=true/\b.length<d.length then d else b)
theorem aGm (l x:Str): ∀(c:List Str) (b:Str),bst l (c++[x]) b=if prf l x=true/\(bst l c b).length<x.length then x else bst l c b
 | [],_=>rfl
 |_::c,_=>aGm l x c _
theorem tok_L2 (s:Str) (p:Nat) (r:p<=s.length) (hs:s.length<=1000000):Fer s (p:Int) tX ([],0)=some (bst (s.drop p) tX []):=by
 unfold Fer;refine loopO_at (λ(i:Nat)=>(bst (s.drop p) (tX.take i) [],(i:Int))) tX (some (bst (s.drop p) tX [])) (by decide) ?_ ?_
 ·intro l i d j hi;have d2:d.length<=2:=(by decide: ∀d∈tX,d.length<=2) d (mG j);have a:at' tX (i:Int)=some d:=bD j;simp only [zS];rw [xJ hi,zI,a];simp only [zA];rw [wrap_i64 (n:=(p:Int)+(d.length:Int)) (by omega) (by omega),tk_snoc j,aGm];generalize bst (s.drop p) (tX.take i) []=b;have e:(gI (gV (decide ((p:Int)+(d.length:Int)<=(s.length:Int))) (gI (sub' s (p:Int) ((p:Int)+(d.length:Int))) λc=>gV (decide ((c:Str)=d)) (some (decide ((b.length:Int)<(d.length:Int)))) (some false)) (some false)) λg=>gV g (some d) (some b))=some (if prf (s.drop p) d=true/\b.length<d.length then d else b):=by
   unfold prf
   by_cases h:d.length<=(s.drop p).length
   ·have m:=h;rw [List.length_drop]at h;have o:sub' s (p:Int) ((p:Int)+(d.length:Int))=some ((s.drop p).take d.length):=by
     unfold sub';rw [if_pos ⟨by omega,by omega,by omega⟩,Int.toNat_natCast,show((p:Int)+(d.length:Int)-(p:Int)).toNat=d.length by omega]
    rw [dT (by omega:(p:Int)+(d.length:Int)<=(s.length:Int)),zI,o,zA,dT m,Bool.true_and]
    by_cases q:(s.drop p).take d.length=d
    ·rw [dT q,zI,zA]
     by_cases z:b.length<d.length
     ·rw [dT (by omega:(b.length:Int)<(d.length:Int)),zI,if_pos ⟨rfl,z⟩]
     ·rw [qD (by omega: ¬(b.length:Int)<(d.length:Int)),zH,if_neg (λh=>z h.2)]
    ·rw [qD q,zH,zA,zH,if_neg (λh=>by cases h.1)]
   ·rw [qD (by rw [List.length_drop]at h;omega),zH,zA,zH,qD h,Bool.false_and,if_neg (λh=>by cases h.1)]
  rw [e,zA,dM hi (by decide)]
 ·intro l;simp only [zS];rw [xI,zH];rfl
theorem bst_sgn {c:UInt8} (r:Str) (h:c≠40) (j:c≠41):bst (c::r) tX []=((sgn (c::r)).map λz=>z.1).getD []:=by
 unfold tX sgn;simp only [bst,prf1,prf2,if_neg h,if_neg j];by_cases q:r.head? =some 61;rw [dT q];simp only [Bool.and_true,if_pos q];by_cases b:c=60;subst b;rfl;by_cases d:c=33;subst d;rfl;by_cases e:c=62;subst e;rfl;by_cases g:c=61;subst g;rfl;simp [b,d,e,g];rw [qD q];simp only [Bool.and_false,if_neg q];by_cases b:c=60;subst b;rfl;by_cases d:c=33;subst d;rfl;by_cases e:c=62;subst e;rfl;by_cases g:c=61;subst g;rfl;simp [b,d,e,g]
theorem placeR_eq (d:Str):Fam tX d=some (match tX.findIdx? (λx=>decide (x=d))with |some i=>(i:Int)|none=> -1):=by
 unfold Fam Ffg;simp only [yU];rw [yZ tX (λi x=>if decide (x=d)=true then some (some (i:Int))else none) (some (-1)) (by decide) ?_ ?_];unfold tX;simp only [aH,List.findIdx?_cons,List.findIdx?_nil];by_cases e:([60]:Str)=d<;>by_cases g:([60,61]:Str)=d<;>by_cases h:([61]:Str)=d<;>by_cases j:([33,61]:Str)=d<;>by_cases l:([62,61]:Str)=d<;>by_cases m:([62]:Str)=d<;>simp_all;intro b i x c hi;simp only [zS];rw [xJ hi,zI,bD c,zA];by_cases q:x=d;rw [dT q,zI,if_pos rfl];rw [qD q,zH,if_neg (by decide),dM hi (by decide)];intro b;simp only [zS];rw [xI,zH]
theorem sgn_place {c:UInt8}{r t:Str}{k n:Int}(d:c≠40)(b:c≠41)(h:sgn (c::r)=some (t,k,n)):k=4/\Fam tX t=some (n-1):=by
 rw [vU,if_neg d,if_neg b]at h
 repeat' split at h
 all_goals first
  |(injection h with h;injection h with b h2;injection h2 with h2 h3;subst b;subst h2;subst h3;exact⟨rfl,by rw [placeR_eq];rfl⟩)
  |cases h
def bV (p:Nat)(l:Str):gW×Nat:=
 if rn l≠0 then(gW.mk (knd (l.take (rn l))).1 p (l.take (rn l)) (knd (l.take (rn l))).2,rn l)
 else match sgn l with
  |some (t,k,n)=>(gW.mk k p t n,t.length)
  |none=>(gW.mk 6 p (l.take 1) 0,1)
theorem qE {p:Nat}{l:Str} (h:l≠[]):1<=(bV p l).2/\(bV p l).2<=l.length:=by
 have b:=List.length_pos_iff.2 h;have c:=aFt l;unfold bV;split;exact⟨by dsimp only;omega,c⟩;split;rename_i hs;have:=aAn hs;exact⟨this.1,this.2.1⟩;exact⟨Nat.le_refl _,b⟩
theorem aBw {s:Str}{p n:Nat}(h:p+n<=s.length):sub' s (p:Int) ((p+n:Nat):Int)=some ((s.drop p).take n):=by
 unfold sub';rw [if_pos ⟨by omega,by omega,by omega⟩,Int.toNat_natCast,show(((p+n:Nat):Int)-(p:Int)).toNat=n by omega]
theorem aIb (s:Str) (p:Nat) (h:p<s.length) (hs:s.length<=1000000):Fdl s (p:Int)=some ((bV p (s.drop p)).1,((p+(bV p (s.drop p)).2:Nat):Int)):=by
 obtain⟨c,m,b⟩:=drop_at h;unfold Fdl;rw [aA m,zA];simp only [zS,yU];rw [aGd,zA,dM h (by omega)];show gV (nb c) _ _=_;have j:(s.drop p).length=s.length-p:=List.length_drop
 cases q:nb c with
 |true=>
  have o:rn (s.drop p)=rn (s.drop (p+1))+1:=by rw [b,wG,if_pos q]
  have w:=aFt (s.drop p);rw [zI,tok_L1 s (p+1) (by omega) hs,zA,show p+1+rn (s.drop (p+1))=p+rn (s.drop p)by omega,aBw (by omega),zA];have l:((s.drop p).take (rn (s.drop p))).length=rn (s.drop p):=by rw [List.length_take];omega
  rw [rrun_eq _ _ (λe=>by rw [e]at l;simp at l;omega) (by omega),zA];unfold bV;rw [if_pos (by omega)]
 |false=>
  have o:rn (s.drop p)=0:=by rw [b,wG,if_neg (by rw [q];decide)]
  rw [zH];unfold bV;rw [if_neg (by omega)];have c40:decide ((c.toNat:Int)=40)=(c==40):=bI c 40;have g:decide ((c.toNat:Int)=41)=(c==41):=bI c 41;have t1:(s.drop p).take 1=[c]:=by rw [b];rfl
  rw [c40,g]
  by_cases e0:c=40
  ·subst e0;rw [show((40:UInt8)==40)=true from rfl,zI,zA,zI,aBw (by omega),zA,t1,b];rfl
  ·by_cases d:c=41
   ·subst d;rw [show((41:UInt8)==40)=false from rfl,zH,show((41:UInt8)==41)=true from rfl,zA,zI,aBw (by omega),zA,t1,b];rfl
   ·rw [beq_eq_false_iff_ne.2 e0,zH,beq_eq_false_iff_ne.2 d,zA,zH];have r:Fee=some tX:=rfl;rw [r,zA,tok_L2 s p (by omega) hs,zA,b,bst_sgn _ e0 d]
    cases hg:sgn (c::s.drop (p+1))with
    |none=>
     rw [show((Option.map (λ(z:Str×Int×Int)=>z.1) none).getD ([]:Str))=[]from rfl,dT rfl,zI,aBw (by omega),zA,t1];rfl
    |some z=>
     obtain⟨t,k,n⟩:=z;obtain⟨u,v⟩:=sgn_place e0 d hg;have sl:=aAn hg;have A: -1000<=n/\n<=1000:=by
      rw [vU]at hg
      repeat' split at hg
      all_goals first
       |(injection hg with hg;injection hg with h1 h2;injection h2 with h2 h3;omega)
       |cases hg
     rw [show((Option.map (λ(z:Str×Int×Int)=>z.1) (some (t,k,n))).getD ([]:Str))=t from rfl,qD sl.2.2.2.1,zH,v,zA,wrap_i64 (n:=n-1+1) (by omega) (by omega),wrap_i64 (n:=(p:Int)+(t.length:Int)) (by omega) (by omega),u];show some (gW.mk 4 (p:Int) t (n-1+1),(p:Int)+(t.length:Int))=some (gW.mk 4 (p:Int) t n,((p+t.length:Nat):Int));rw [show n-1+1=n by omega,show(p:Int)+(t.length:Int)=((p+t.length:Nat):Int)by omega]
def conv (t:gW):gK:=gK.mk (if t.kind=5 then 4 else t.kind) t.at_ (if t.kind=3 then t.n else 0) t.text
theorem knd_rng (t:Str):(knd t).1=1\/(knd t).1=2\/(knd t).1=3\/(knd t).1=6:=by
 unfold knd;split;exact Or.inl rfl;split;exact Or.inr (Or.inl rfl);split;exact Or.inr (Or.inr (Or.inl rfl));exact Or.inr (Or.inr (Or.inr rfl))
theorem aAt (x:gB) (s:Str) (a:Nat) (o:x.text=s) (q:x.at_=(a:Int)) (u:a<=s.length) (hs:s.length<=1000000):
  Fab x=some (
   let p:=a+skL (s.drop a)
   if p=s.length then .ok (gB.mk s (s.length:Nat) (gK.mk 0 (s.length:Nat) 0 []) x.r)
   else if (bV p (s.drop p)).1.kind=6 then .error (gQ.mk (p:Nat) 6)
   else .ok (gB.mk s ((p+(bV p (s.drop p)).2:Nat):Int) (conv (bV p (s.drop p)).1) x.r)):=by
 unfold Fab;have b:=blanks_eq x s a o q u hs;have v:Fbl (gB.mk x.text x.at_ (gK.mk x.now.kind x.now.at_ x.now.n x.now.text) (Rules.mk x.r.Phases x.r.Moves x.r.Rules))=some (gB.mk s ((a+skL (s.drop a):Nat):Int) x.now x.r):=b;rw [v,zA];have h:=uO (s.drop a);rw [List.length_drop]at h;have d:a+skL (s.drop a)<=s.length:=by omega
 generalize a+skL (s.drop a)=p at d;dsimp only;simp only [zS]
 by_cases j:p=s.length
 ·subst j;rw [dT rfl,zI,if_pos rfl]
 ·rw [qD (by omega: ¬(p:Int)=(s.length:Int)),zH,if_neg j,adv_L1 (gB.mk s (p:Int) x.now x.r) s rfl p d hs,zA];have c:(s.drop p).length=s.length-p:=List.length_drop;have A:=aFt (s.drop p)
  by_cases l:rn (s.drop p)=0
  ·have tk:bV p (s.drop p)=(match sgn (s.drop p)with
    |some (t,k,n)=>(gW.mk k p t n,t.length)
    |none=>(gW.mk 6 p ((s.drop p).take 1) 0,1)):=by unfold bV;rw [if_neg (by omega)]
   rw [tk,l,Nat.add_zero,qD (by omega: ¬(p:Int)<(p:Int)),zH];simp only [yU];have w:((([[60,61],[33,61],[62,61],[60],[61],[62],[40],[41]]:List Str)).length:Int)=((sgP.length:Nat):Int):=rfl;rw [w,adv_L2 x (gB.mk s (p:Int) x.now x.r) _ s p rfl rfl d hs,fst_sgn (λe=>by rw [e]at c;simp at c;omega)]
   cases hg:sgn (s.drop p)with
   |none=>rfl
   |some z=>
    obtain⟨t,k,n⟩:=z;have sl:=aAn hg;dsimp only [Option.map];rcases sl.2.2.1 with e|e
    ·subst e;rfl
    ·subst e;rfl
  ·have tk:bV p (s.drop p)=(gW.mk (knd ((s.drop p).take (rn (s.drop p)))).1 p ((s.drop p).take (rn (s.drop p))) (knd ((s.drop p).take (rn (s.drop p)))).2,rn (s.drop p)):=by unfold bV;rw [if_pos l]
   rw [tk,dT (by omega:(p:Int)<((p+rn (s.drop p):Nat):Int)),zI,aBw (by omega),zA];have m:((s.drop p).take (rn (s.drop p))).length=rn (s.drop p):=by rw [List.length_take];omega
   rw [run_eq _ ((s.drop p).take (rn (s.drop p))) rfl (λe=>by rw [e]at m;simp at m;omega) (by omega),zA];dsimp only
   by_cases g:(knd ((s.drop p).take (rn (s.drop p)))).1=6
   ·rw [if_pos g,if_pos g];rfl
   ·rw [if_neg g,if_neg g];unfold conv thr;dsimp only;rcases knd_rng ((s.drop p).take (rn (s.drop p)))with e|e|e|e
    ·rw [e];rfl
    ·rw [e];rfl
    ·rw [e];rfl
    ·exact absurd e g
abbrev Tk:=gW
abbrev Rf:=gG
def pY (p:Nat)(l:Str):List Tk:=
 if h:l=[]then []else
  have:=qE (p:=p) h
  (bV p l).1::pY (p+(bV p l).2+skL (l.drop (bV p l).2)) ((l.drop (bV p l).2).drop (skL (l.drop (bV p l).2)))
termination_by l.length
decreasing_by simp only [List.length_drop];omega
def aDr (s:Str):Tk:=gW.mk 0 (s.length:Nat) [] 0
def qQ (s:Str)(a:Nat):List Tk:=pY (a+skL (s.drop a)) (s.drop (a+skL (s.drop a)))++[aDr s]
theorem aFl {s:Str}{a:Nat}(h:a+skL (s.drop a)=s.length):qQ s a=[aDr s]:=by
 unfold qQ;rw [h,List.drop_length,pY,dif_pos rfl];rfl
theorem aGn {s:Str}{a p:Nat}(b:p=a+skL (s.drop a))(h:p<s.length):qQ s a=(bV p (s.drop p)).1::qQ s (p+(bV p (s.drop p)).2):=by
 subst b;unfold qQ;rw [pY,dif_neg (λe=>by have:=congrArg List.length e;rw [List.length_drop]at this;simp at this;omega),List.drop_drop,List.drop_drop];rfl
structure TkOk (s:Str)(t:Tk):Prop where
 k:t.kind=1\/t.kind=2\/t.kind=3\/t.kind=4\/t.kind=5\/t.kind=6
 l:t.text.length<=s.length
 n: -10000000000000000<=t.n/\t.n<=10000000000000000
 w:t.kind=1->t.text∈kws
 p:t.kind=5->t.text=[40]\/t.text=[41]
 o:t.kind=4->(t.text,t.n)=([60],1)\/(t.text,t.n)=([60,61],2)\/(t.text,t.n)=([61],3)\/(t.text,t.n)=([33,61],4)\/(t.text,t.n)=([62,61],5)\/(t.text,t.n)=([62],6)
 m:t.kind=2->t.text∉kws/\t.text≠[]/\nV t.text=true
theorem numR_rng {t:Str}{n:Int} (h:qH t=some n): -10000000000000000<=n/\n<=10000000000000000:=by
 unfold qH at h;split at h;cases h;rename_i q;have h:=oI h;simp only [not_or,not_and,Nat.not_lt]at q;have b:(trm t).all kE=true:=by simpa using q.2.2.2
 have c:=aAi (trm t) 0 0 b (by decide);have d:10^(0+(trm t).length)<=10^16:=Nat.pow_le_pow_right (by decide) (by omega);have p2:(10:Nat)^16=10000000000000000:=by decide
 split at h<;>omega
theorem aKe {t:Str}:isW t=true↔t∈kws:=by unfold isW;exact decide_eq_true_iff
theorem aKo {s:Str}{p:Nat} (h:p<s.length):TkOk s (bV p (s.drop p)).1:=by
 have d:(s.drop p).length=s.length-p:=List.length_drop;unfold bV;split
 ·have b:((s.drop p).take (rn (s.drop p))).length<=s.length:=by rw [List.length_take];omega
  have t0:(s.drop p).take (rn (s.drop p))≠[]:=λe=>by
   have:=congrArg List.length e;rw [List.length_take]at this;have q:=aFt (s.drop p);simp only [List.length_nil]at this;omega
  generalize (s.drop p).take (rn (s.drop p))=t at b t0
  cases hw:isW t with
  |true=>rw [aLq hw];exact⟨Or.inl rfl,b,⟨by dsimp only;decide,by dsimp only;decide⟩,λ_=>aKe.1 hw,(λh=>nomatch h),(λh=>nomatch h),(λh=>nomatch h)⟩
  |false=>
   have o:t∉kws:=λe=>by rw [aKe.2 e]at hw;cases hw
   cases hn:nV t with
   |true=>rw [aMk hw hn];exact⟨Or.inr (Or.inl rfl),b,⟨by dsimp only;decide,by dsimp only;decide⟩,(λh=>nomatch h),(λh=>nomatch h),(λh=>nomatch h),λ_=>⟨o,t0,hn⟩⟩
   |false=>
    cases hr:qH t with
    |some n=>rw [aLu hw hn hr];exact⟨Or.inr (Or.inr (Or.inl rfl)),b,numR_rng hr,(λh=>nomatch h),(λh=>nomatch h),(λh=>nomatch h),(λh=>nomatch h)⟩
    |none=>rw [aBu hw hn hr];exact⟨Or.inr (Or.inr (Or.inr (Or.inr (Or.inr rfl)))),b,⟨by dsimp only;decide,by dsimp only;decide⟩,(λh=>nomatch h),(λh=>nomatch h),(λh=>nomatch h),(λh=>nomatch h)⟩
 ·split
  ·rename_i t k n hs;have sl:=aAn hs;have b:t.length<=s.length:=by omega
   obtain⟨c,r,e⟩: ∃c r,s.drop p=c::r:=by cases hd:s.drop p with |nil=>rw [hd]at d;simp at d;omega|cons c r=>exact⟨c,r,rfl⟩
   have g: ∀u,(u=[40]\/u=[41])->u.length<=s.length->TkOk s (gW.mk 5 p u 0):=λu j l=>⟨Or.inr (Or.inr (Or.inr (Or.inr (Or.inl rfl)))),l,⟨by dsimp only;decide,by dsimp only;decide⟩,(λh=>nomatch h),λ_=>j,(λh=>nomatch h),(λh=>nomatch h)⟩
   have m: ∀(u:Str) (n:Int),((u,n)=([60],1)\/(u,n)=([60,61],2)\/(u,n)=([61],3)\/(u,n)=([33,61],4)\/(u,n)=([62,61],5)\/(u,n)=([62],6))->u.length<=s.length->TkOk s (gW.mk 4 p u n):=λu n j l=>⟨Or.inr (Or.inr (Or.inr (Or.inl rfl))),l,by
    dsimp only;rcases j with z|z|z|z|z|z<;>(injection z with _ z2;subst z2;exact⟨by decide,by decide⟩),(λh=>nomatch h),(λh=>nomatch h),λ_=>j,(λh=>nomatch h)⟩
   rw [e,vU]at hs
   repeat' split at hs
   all_goals first
    |(injection hs with hs;injection hs with h1 h2;injection h2 with h2 h3;subst h1;subst h2;subst h3;first |exact g _ (Or.inl rfl) b|exact g _ (Or.inr rfl) b|exact m _ _ (by simp) b)
    |cases hs
  ·exact⟨Or.inr (Or.inr (Or.inr (Or.inr (Or.inr rfl)))),by dsimp only;rw [List.length_take];omega,⟨by dsimp only;decide,by dsimp only;decide⟩,(λh=>nomatch h),(λh=>nomatch h),(λh=>nomatch h),(λh=>nomatch h)⟩
theorem tokens_eq (s:Str) (hs:s.length<=1000000):Fce s=some (qQ s 0):=by
 unfold Fce;have q:=uO s;have e0:Fbx s 0=some ((0+skL (s.drop 0):Nat):Int):=aAp s 0 (Nat.zero_le _) hs;rw [List.drop_zero,Nat.zero_add]at e0;have d:Fek s (([]:List Tk),((skL s:Nat):Int))=some ([]++pY (skL s) (s.drop (skL s))):=by
  unfold Fek;refine nK (λ(z:List Tk×Nat)=>(z.1,(z.2:Int))) (λz=>s.length-z.2) (λz=>z.1.length<=z.2/\z.2<=s.length) (λz=>some (z.1++pY z.2 (s.drop z.2))) (λk z r g=>?_) ([],skL s) ⟨Nat.zero_le _,q⟩ (by show s.length-skL s<=_;omega);obtain⟨acc,p⟩:=z;obtain⟨u,v⟩:=r;dsimp only at u v⊢;simp only [zS]
  by_cases w:p<s.length
  ·have c:(s.drop p).length=s.length-p:=List.length_drop;have b:s.drop p≠[]:=λe=>by rw [e]at c;simp at c;omega
   have A:=qE (p:=p) b;rw [dT (by omega:(p:Int)<(s.length:Int)),zI,aIb s p w hs,zA];dsimp only;have j:app' 40 acc [(bV p (s.drop p)).1]=some (acc++[(bV p (s.drop p)).1]):=by
    unfold app';rw [if_pos ⟨by rw [maxLen_eq];simp;omega,by simp;omega⟩]
   rw [j,zA,aAp s _ (by omega) hs,zA];have m:=uO (s.drop (p+(bV p (s.drop p)).2));rw [List.length_drop]at m;have e:=g (acc++[(bV p (s.drop p)).1],p+(bV p (s.drop p)).2+skL (s.drop (p+(bV p (s.drop p)).2))) ⟨by rw [List.length_append,List.length_singleton];dsimp only;omega,by dsimp only;omega⟩ (by dsimp only;omega);dsimp only at e;rw [e]
   conv=>rhs;rw [pY,dif_neg b,List.drop_drop,List.drop_drop]
   rw [List.append_assoc];rfl
  ·have:p=s.length:=by omega
   subst this;rw [qD (by omega: ¬((s.length:Nat):Int)<(s.length:Int)),zH,List.drop_length,pY,dif_pos rfl,List.append_nil]
 rw [e0,zA,d,zA];simp only [zS];have ll:(pY (skL s) (s.drop (skL s))).length<=s.length:=by
  have o: ∀(n p:Nat) (l:Str),l.length<=n->(pY p l).length<=l.length:=by
   intro n
   induction n with
   |zero=>
    intro p l h;have:l=[]:=List.eq_nil_of_length_eq_zero (by omega);subst this;rw [pY,dif_pos rfl];exact Nat.le_refl _
   |succ n g=>
    intro p l h
    by_cases b:l=[]
    ·subst b;rw [pY,dif_pos rfl];exact Nat.le_refl _
    ·have A:=qE (p:=p) b;rw [pY,dif_neg b,List.length_cons];have:=g (p+(bV p l).2+skL (l.drop (bV p l).2)) ((l.drop (bV p l).2).drop (skL (l.drop (bV p l).2))) (by rw [List.length_drop,List.length_drop];omega);rw [List.length_drop,List.length_drop]at this;omega
  have:=o _ (skL s) (s.drop (skL s)) (Nat.le_refl _);rw [List.length_drop]at this;omega
 have j:app' 40 ([]++pY (skL s) (s.drop (skL s))) [aDr s]=some (pY (skL s) (s.drop (skL s))++[aDr s]):=by
  rw [List.nil_append];unfold app';rw [if_pos ⟨by rw [maxLen_eq];simp;omega,by simp;omega⟩]
 show gI (app' 40 ([]++pY (skL s) (s.drop (skL s))) [aDr s]) _=_;rw [j,zA];unfold qQ;rw [List.drop_zero,Nat.zero_add]
theorem rX (s:Str)(a:Nat):1<=(qQ s a).length:=by unfold qQ;rw [List.length_append];simp
structure RS (s:Str)(r0:Rules)(L:List Tk)(x:gB)(y:Rf)(i a:Nat)(t:Tk)(rest:List Tk):Prop where
 text:x.text=s
 xr:x.r=r0
 ye:y.e=0
 yl:y.l=L
 yi:y.at_=(i:Int)
 d:L.drop i=t::rest
 now:x.now=conv t
 k6:t.kind≠6
 xa:x.at_=(a:Int)
 al:a<=s.length
 c:(t=aDr s/\rest=[]/\a=s.length)\/(TkOk s t/\rest=qQ s a)
structure EE (L:List Tk)(y:Rf)(f:gQ)(i:Nat):Prop where
 yl:y.l=L
 yi:y.at_=(i:Int)
 il:i<L.length
 ye:y.e=f.e
 yp:y.pos=f.at_
 n:f.e≠0
structure EB (L:List Tk)(y:Rf)(f:gQ)(i:Nat)(t:Tk):Prop where
 yl:y.l=L
 yi:y.at_=(i:Int)
 tg:L[i]? =some t
 ye:y.e=0
 tk:t.kind=6
 ta:t.at_=f.at_
 fe:f.e=6
def Er (L:List Tk)(y:Rf)(f:gQ):Prop:=(∃i,EE L y f i)\/ ∃i t,EB L y f i t
def Rk (s:Str)(r0:Rules)(L:List Tk)(x:gB)(y:Rf)(k:Nat):Prop:= ∃i a t rest,RS s r0 L x y i a t rest/\rest.length=k
theorem mk_x (x:gB):gB.mk x.text x.at_ (gK.mk x.now.kind x.now.at_ x.now.n x.now.text) (Rules.mk x.r.Phases x.r.Moves x.r.Rules)=x:=rfl
section
variable {s:Str}{r0:Rules}{L:List Tk}{x:gB}{y:Rf}{i a:Nat}{t:Tk}{rest:List Tk}
theorem RS.get (h:RS s r0 L x y i a t rest):L[i]? =some t:=by
 have:=congrArg List.head? h.d;rw [List.head?_drop]at this;exact this
theorem RS.il (h:RS s r0 L x y i a t rest):i<L.length:=(gS.1 h.get).1
theorem rV (h:RS s r0 L x y i a t rest):Fae y=some t:=by
 unfold Fae;rw [h.yl,h.yi,aDu,h.get,zA]
theorem aAf (h:RS s r0 L x y i a t rest) (hs:s.length<=1000000) (hL:L.length<=2000000): ∃m,Fad y=some m/\
  ((∃u k,Fab x=some (.ok u)/\Rk s r0 L u m k/\k<=rest.length/\(t.kind≠0->k<rest.length))\/(∃f,Fab x=some (.error f)/\Er L m f)):=by
 have il:=h.il;have A:Fad y=some (if i+1<L.length then gG.mk L ((i+1:Nat):Int) y.pos y.e else y):=by
  unfold Fad;simp only [zS,h.yl,h.yi];rw [wrap_i64 (n:=(i:Int)+1) (by omega) (by omega)]
  by_cases c:i+1<L.length
  ·rw [dT (by omega:(i:Int)+1<(L.length:Int)),zI,if_pos c];rfl
  ·rw [qD (by omega: ¬(i:Int)+1<(L.length:Int)),zH,if_neg c,<-h.yl,<-h.yi]
 refine⟨_,A,?_⟩;have b:=aAt x s a h.text h.xa h.al hs;dsimp only at b;have v:(L.drop i).length=L.length-i:=List.length_drop;rw [h.d,List.length_cons]at v;have o:=uO (s.drop a);rw [List.length_drop]at o;have al:=h.al;rcases h.c with ⟨l,j,B⟩|⟨l,j⟩
 ·subst j;rw [if_neg (by simp at v;omega)];subst B;rw [List.drop_length,show skL []=0 by rw [skL],Nat.add_zero,if_pos rfl]at b
  left
  refine⟨_,0,b,⟨i,s.length,t,[],⟨rfl,h.xr,h.ye,h.yl,h.yi,h.d,?_,h.k6,rfl,Nat.le_refl _,Or.inl ⟨l,rfl,rfl⟩⟩,rfl⟩,Nat.le_refl _,λw=>?_⟩
  ·rw [l];rfl
  ·rw [l]at w;exact absurd rfl w
 ·have C:=rX s a;rw [<-j]at C;have d2:L.drop (i+1)=rest:=by
   have:=congrArg List.tail h.d;rw [List.tail_drop]at this;exact this
  rw [if_pos (by omega)]
  by_cases q:a+skL (s.drop a)=s.length
  ·rw [if_pos q]at b;have g:rest=[aDr s]:=by rw [j];exact aFl q
   left
   refine⟨_,0,b,⟨i+1,s.length,aDr s,[],⟨rfl,h.xr,h.ye,rfl,rfl,by rw [d2,g],rfl,by show(0:Int)≠6;decide,rfl,Nat.le_refl _,Or.inl ⟨rfl,rfl,rfl⟩⟩,rfl⟩,Nat.zero_le _,λ_=>by rw [g];exact Nat.one_pos⟩
  ·rw [if_neg q]at b;have z:a+skL (s.drop a)<s.length:=by omega
   have g:rest=_:=j.trans (aGn rfl z);have r:s.drop (a+skL (s.drop a))≠[]:=λe=>by have:=congrArg List.length e;rw [List.length_drop]at this;simp at this;omega
   have D:=qE (p:=a+skL (s.drop a)) r;have tk:=aKo z;have E:(bV (a+skL (s.drop a)) (s.drop (a+skL (s.drop a)))).1.at_=((a+skL (s.drop a):Nat):Int):=by
    unfold bV;split
    ·rfl
    ·split<;>rfl
   rw [List.length_drop]at D
   by_cases k6:(bV (a+skL (s.drop a)) (s.drop (a+skL (s.drop a)))).1.kind=6
   ·rw [if_pos k6]at b
    right
    refine⟨_,b,Or.inr ⟨i+1,_,⟨rfl,rfl,?_,h.ye,k6,E,rfl⟩⟩⟩;have:=congrArg List.head? (d2.trans g);rw [List.head?_drop]at this;exact this
   ·rw [if_neg k6]at b
    left
    have F:=d2.trans g;refine⟨_,_,b,⟨i+1,_,_,_,⟨rfl,h.xr,h.ye,rfl,rfl,F,rfl,k6,rfl,by omega,Or.inr ⟨tk,rfl⟩⟩,rfl⟩,?_,λ_=>?_⟩
    ·rw [g,List.length_cons];omega
    ·rw [g,List.length_cons];omega
theorem rW (h:RS s r0 L x y i a t rest) (w:Str) (m:w∈kws\/w=[40]\/w=[41]): ∃b:Bool,Fai (some x) w=some b/\Fac y w=some b/\(b=true->(t.kind=1\/t.kind=5)/\t.text=w)/\(b=false-> ¬((t.kind=1\/t.kind=5)/\t.text=w)):=by
 have no: ∀k:Int,Fai (some x) w=some ((decide (x.now.kind=1)||decide (x.now.kind=4))&&decide (x.now.text=w)):=λ_=>by
  unfold Fai;simp only [zS,zA]
  cases decide (x.now.kind=1)<;>cases decide (x.now.kind=4)<;>simp [zI,zH,zA]
 have rd:Fac y w=some ((decide (t.kind=1)||decide (t.kind=5))&&decide (t.text=w)):=by
  unfold Fac;have:Fae (gG.mk y.l y.at_ y.pos y.e)=some t:=rV h;rw [this,zA];simp only [zS]
  cases decide (t.kind=1)<;>cases decide (t.kind=5)<;>simp [zI,zH,zA]
 have e:((decide (x.now.kind=1)||decide (x.now.kind=4))&&decide (x.now.text=w))=((decide (t.kind=1)||decide (t.kind=5))&&decide (t.text=w)):=by
  rw [h.now];unfold conv;dsimp only;rcases h.c with ⟨j,-,-⟩|⟨j,-⟩
  ·rw [j];rfl
  ·rcases j.k with q|q|q|q|q|q
   ·rw [q];rfl
   ·rw [q];rfl
   ·rw [q];rfl
   ·rw [q];have ne:t.text≠w:=λe=>by
     subst e;rcases j.o q with z|z|z|z|z|z<;>(injection z with n z2;rw [n]at m;revert m;decide)
    rw [qD ne];simp
   ·rw [q];rfl
   ·exact absurd q h.k6
 refine⟨_,(no 0).trans (congrArg some e),rd,λd=>?_,λd p=>?_⟩
 ·simp only [Bool.and_eq_true,Bool.or_eq_true,decide_eq_true_eq]at d;exact d
 ·obtain⟨g,c2⟩:=p;rw [dT c2,Bool.and_true]at d;simp only [Bool.or_eq_false_iff,decide_eq_false_iff_not]at d;rcases g with g|g
  ·exact d.1 g
  ·exact d.2 g
end
theorem yX (y:Rf):gG.mk y.l y.at_ y.pos y.e=y:=rfl
def ErE (L:List Tk)(y:Rf)(f:gQ):Prop:= ∃i,EE L y f i
section
variable {L:List Tk}{y:Rf}{f:gQ}{i:Nat}{t:Tk}
theorem ErE.er (h:ErE L y f):Er L y f:=Or.inl h
theorem EE.e0 (h:EE L y f i):y.e≠0:=by rw [h.ye];exact h.n
theorem vJ (h:EE L y f i): ∃t,L[i]? =some t/\Fae y=some t:=by
 have q:L[i]? =some (L[i]'h.il):=gE h.il;refine⟨_,q,?_⟩;unfold Fae;rw [h.yl,h.yi,aDu,q,zA]
theorem aDh (h:EB L y f i t):Fae y=some t:=by
 unfold Fae;rw [h.yl,h.yi,aDu,h.tg,zA]
theorem sQ (hL:L.length<=2000000) (h:ErE L y f): ∃b,Fad y=some b/\ErE L b f:=by
 obtain⟨i,h⟩:=h;have il:=h.il;unfold Fad;simp only [zS,h.yl,h.yi];rw [wrap_i64 (n:=(i:Int)+1) (by omega) (by omega)];by_cases c:i+1<L.length;rw [dT (by omega:(i:Int)+1<(L.length:Int)),zI];exact⟨_,rfl,i+1,⟨rfl,rfl,c,h.ye,h.yp,h.n⟩⟩;rw [qD (by omega: ¬(i:Int)+1<(L.length:Int)),zH];exact⟨_,rfl,i,⟨rfl,rfl,il,h.ye,h.yp,h.n⟩⟩
theorem aBp (h:EE L y f i)(a b:Int):Fak y a b=some y:=by
 unfold Fak;simp only [zS];rw [qD h.e0,zH]
theorem aEl (h:EB L y f i t): ∃b,Fak y t.at_ 6=some b/\EE L b f i:=by
 unfold Fak;simp only [zS];rw [dT h.ye,zI];exact⟨_,rfl,⟨h.yl,h.yi,(gS.1 h.tg).1,h.fe.symm,h.ta,by rw [h.fe];decide⟩⟩
theorem aQ (hL:L.length<=2000000) (h:Er L y f) {K:Int} (m:K≠6): ∃t c,Faa y K=some (t,c)/\ErE L c f:=by
 unfold Faa;simp only [zS,yX];rcases h with ⟨i,h⟩|⟨i,t,h⟩
 ·obtain⟨t,-,n⟩:=vJ h;obtain⟨c,d,j⟩:=sQ hL ⟨i,h⟩;rw [n,zA];have g:(gV (decide (t.kind≠K)) (gI (Fak y t.at_ 6) λb=>some (b.l,b.at_,b.pos,b.e)) (some (y.l,y.at_,y.pos,y.e)))=some (y.l,y.at_,y.pos,y.e):=by
   rw [aBp h,zA]
   cases decide (t.kind≠K)<;>rfl
  rw [g,zA];dsimp only;rw [yX,d,zA];exact⟨_,_,rfl,j⟩
 ·obtain⟨_,f1,f2⟩:=aEl h;obtain⟨c,d,j⟩:=sQ hL ⟨i,f2⟩;rw [aDh h,zA,dT (by rw [h.tk];exact λe=>m e.symm:t.kind≠K),zI,f1,zA,zA];dsimp only;rw [yX,d,zA];exact⟨_,_,rfl,j⟩
theorem r_is (b:Fae y=some t)(w:Str):Fac y w=some ((decide (t.kind=1)||decide (t.kind=5))&&decide (t.text=w)):=by
 unfold Fac;simp only [zS,yX];rw [b,zA];cases decide (t.kind=1)<;>cases decide (t.kind=5)<;>simp [zI,zH,zA]
theorem b_is (h:EB L y f i t)(w:Str):Fac y w=some false:=by
 rw [r_is (aDh h),h.tk];rfl
theorem e_is (h:EE L y f i)(w:Str): ∃b,Fac y w=some b:=by
 obtain⟨t,-,c⟩:=vJ h;exact⟨_,r_is c w⟩
theorem aHy (hL:L.length<=2000000) (h:Er L y f) (w:Str): ∃c,Faj y w=some c/\ErE L c f:=by
 unfold Faj;simp only [zS,yX];rcases h with ⟨i,h⟩|⟨i,t,h⟩
 ·obtain⟨t,-,m⟩:=vJ h;obtain⟨c,d,j⟩:=sQ hL ⟨i,h⟩;obtain⟨b,n⟩:=e_is h w;rw [n,zA,m,zA,aBp h,zA];have g:(gV (!b) (some (y.l,y.at_,y.pos,y.e)) (some (y.l,y.at_,y.pos,y.e)))=some (y.l,y.at_,y.pos,y.e):=by cases b<;>rfl
  rw [g,zA];dsimp only;rw [yX,d,zA];exact⟨_,rfl,j⟩
 ·obtain⟨_,f1,f2⟩:=aEl h;obtain⟨c,d,j⟩:=sQ hL ⟨i,f2⟩;rw [b_is h,zA,Bool.not_false,zI,aDh h,zA,f1,zA,zA];dsimp only;rw [yX,d,zA];exact⟨_,rfl,j⟩
def beg (t:Tk):Bool:=if t.text∈([[116,114,117,101],[102,97,108,115,101],[115,116,101,97,100,121],[112,104,97,115,101],[114,117,108,101],[110,111,116],[102,111,114],[119,105,116,104,105,110],[99,111,117,110,116],[114,105,115,101,115],[115,105,110,99,101]]:List Str)then decide (t.kind=1)else if t.text=[40]then decide (t.kind=5)else decide (t.kind=2)
theorem xO (t:Tk):Fdc t=some (beg t):=by
 unfold Fdc beg;simp only [zS,aAm,zA]
 by_cases c:t.text∈([[116,114,117,101],[102,97,108,115,101],[115,116,101,97,100,121],[112,104,97,115,101],[114,117,108,101],[110,111,116],[102,111,114],[119,105,116,104,105,110],[99,111,117,110,116],[114,105,115,101,115],[115,105,110,99,101]]:List Str)
 ·rw [if_pos c];simp only [List.mem_cons,List.not_mem_nil,or_false]at c;rcases c with c|c|c|c|c|c|c|c|c|c|c<;>rw [c]<;>rfl
 ·rw [if_neg c];simp only [List.mem_cons,List.not_mem_nil,or_false,not_or]at c;obtain⟨g,c2,c3,c4,c5,h,j,l,c9,b,e⟩:=c;rw [qD g,qD c2,qD c3,qD c4,qD c5,qD h,qD j,qD l,qD c9,qD b,qD e]
  by_cases d:t.text=[40]
  ·rw [if_pos d,dT d];rfl
  ·rw [if_neg d,qD d];rfl
theorem b_beg (h:t.kind=6):beg t=false:=by
 unfold beg;rw [h];split;rfl;split<;>rfl
theorem e_compare (hL:L.length<=2000000)(h:Er L y f): ∃c d,Fbv y=some (c,d)/\ErE L d f:=by
 unfold Fbv;simp only [zS,yX];obtain⟨t1,_,e,g1⟩:=aQ hL h (K:=2) (by decide);obtain⟨t2,_,g,g2⟩:=aQ hL g1.er (K:=4) (by decide);obtain⟨i3,b⟩:=g2;obtain⟨t3,-,j⟩:=vJ b;obtain⟨t4,_,l,g4⟩:=aQ hL (Or.inl ⟨i3,b⟩) (K:=2) (by decide);obtain⟨t5,_,m,g5⟩:=aQ hL (Or.inl ⟨i3,b⟩) (K:=3) (by decide);rw [e,zA];dsimp only;rw [g,zA];dsimp only;rw [j,zA]
 cases decide (t3.kind=2)with
 |true=>rw [zI,l,zA];exact⟨_,_,rfl,g4⟩
 |false=>rw [zH,m,zA];exact⟨_,_,rfl,g5⟩
def EC (L:List Tk)(g:Rf->Int->Option (Cond×Rf))(m:Nat):Prop:= ∀y f,Er L y f-> ∃c b,g y (m:Int)=some (c,b)/\ErE L b f
theorem e_part (hL:L.length<=2000000) {o p:Rf->Int->Option (Cond×Rf)}{m:Nat} (hm:m<=60) (q: ∀j,j<m->EC L o j) (l: ∀j,j<m->EC L p j):EC L (Fbb o p) m:=by
 intro y f h;unfold Fbb;simp only [zS,yX];rcases h with ⟨i,h⟩|⟨i,t,h⟩
 ·obtain⟨t,-,E⟩:=vJ h;rw [E,zA,xO,zA,aBp h,aBp h,zA]
  cases beg t with
  |false=>rw [Bool.not_false,zI];exact⟨_,_,rfl,i,h⟩
  |true=>
   rw [Bool.not_true,zH]
   by_cases m0:m=0
   ·rw [dT (by omega:(m:Int)=0),zI];exact⟨_,_,rfl,i,h⟩
   ·rw [qD (by omega: ¬(m:Int)=0),zH,wrap_i64 (n:=(m:Int)-1) (by omega) (by omega),show(m:Int)-1=((m-1:Nat):Int)by omega];have q:=q (m-1) (by omega);have l:=l (m-1) (by omega);obtain⟨_,F,G,p2⟩:=e_compare hL (Or.inl ⟨i,h⟩);obtain⟨B,H,d⟩:=sQ hL ⟨i,h⟩;rw [G,zA,H,zA,zA]
    cases decide (t.kind=2)with
    |true=>rw [zI];exact⟨_,_,rfl,p2⟩
    |false=>
     rw [zH];have g: ∀c e:Bool,(gV c (some e) (some false))=some (c&&e):=λc e=>by cases c<;>rfl
     rw [g,zA]
     cases(decide (t.kind=5)&&decide (t.text=[40]))with
     |true=>
      rw [zI];obtain⟨c3,_,I,J⟩:=q B f d.er;obtain⟨_,M,N⟩:=aHy hL J.er [41];rw [I,zA];dsimp only;rw [M,zA];exact⟨_,_,rfl,N⟩
     |false=>
      rw [zH];obtain⟨t5,_,r,u⟩:=aQ hL d.er (K:=2) (by decide);obtain⟨t6,_,O,P⟩:=aQ hL u.er (K:=3) (by decide);obtain⟨t7,_,Q,R⟩:=aQ hL P.er (K:=3) (by decide);obtain⟨_,S,v,i2⟩:=l B f d.er;obtain⟨c9,_,i3,i4⟩:=l S f i2.er;obtain⟨t10,w,C,D⟩:=aQ hL d.er (K:=3) (by decide);obtain⟨_,_,i5,i6⟩:=l w f D.er;obtain⟨_,w3,w4⟩:=aHy hL D.er [111,102];obtain⟨t13,A,k9,ka⟩:=aQ hL w4.er (K:=3) (by decide);obtain⟨_,_,i7,i8⟩:=l A f ka.er
      cases decide (t.text=[116,114,117,101])with
      |true=>rw [zI];exact⟨_,_,rfl,d⟩
      |false=>
       rw [zH]
       cases decide (t.text=[102,97,108,115,101])with
       |true=>rw [zI];exact⟨_,_,rfl,d⟩
       |false=>
        rw [zH]
        cases decide (t.text=[115,116,101,97,100,121])with
        |true=>
         rw [zI,r,zA];dsimp only;rw [O,zA];dsimp only;rw [Q,zA];exact⟨_,_,rfl,R⟩
        |false=>
         rw [zH]
         cases decide (t.text=[112,104,97,115,101])with
         |true=>rw [zI,r,zA];exact⟨_,_,rfl,u⟩
         |false=>
          rw [zH]
          cases decide (t.text=[114,117,108,101])with
          |true=>rw [zI,r,zA];exact⟨_,_,rfl,u⟩
          |false=>
           rw [zH]
           cases decide (t.text=[110,111,116])with
           |true=>rw [zI,v,zA];exact⟨_,_,rfl,i2⟩
           |false=>
            rw [zH]
            cases decide (t.text=[114,105,115,101,115])with
            |true=>rw [zI,v,zA];exact⟨_,_,rfl,i2⟩
            |false=>
             rw [zH]
             cases decide (t.text=[115,105,110,99,101])with
             |true=>
              rw [zI,v,zA];dsimp only;rw [i3,zA];exact⟨_,_,rfl,i4⟩
             |false=>
              rw [zH];have g2: ∀c e:Bool,(gV c (some c) (some e))=some (c||e):=λc e=>by cases c<;>rfl
              rw [g2,zA]
              cases(decide (t.text=[102,111,114])||decide (t.text=[119,105,116,104,105,110]))with
              |true=>
               rw [zI,C,zA];dsimp only;have g3: ∀b:Bool,∃z:Int,(gV b (some 12) (some 11))=some z:=λb=>by cases b;exact⟨_,rfl⟩;exact⟨_,rfl⟩
               obtain⟨z,hz⟩:=g3 (decide (t.text=[119,105,116,104,105,110]));rw [hz,zA,i5,zA];exact⟨_,_,rfl,i6⟩
              |false=>
               rw [zH]
               cases decide (t.text=[99,111,117,110,116])with
               |true=>
                rw [zI,C,zA];dsimp only;rw [w3,zA,k9,zA];dsimp only;rw [i7,zA];exact⟨_,_,rfl,i8⟩
               |false=>rw [zH];exact⟨_,_,rfl,d⟩
 ·obtain⟨F,f1,f2⟩:=aEl h;rw [aDh h,zA,xO,zA,b_beg h.tk,Bool.not_false,zI,f1,zA];exact⟨_,_,rfl,i,f2⟩
theorem aEr (hL:L.length<=2000000){b:Rf->Int->Option (Cond×Rf)}: ∀(m:Nat),m<=60->(∀j,j<m->EC L b j)-> ∀n,m<n->EC L (Fbo b n) m:=by
 intro m
 induction m using Nat.strongRecOn with
 |ind m d=>
  intro e c n _;obtain⟨k,rfl⟩: ∃k,n=k+1:=⟨n-1,by omega⟩;exact e_part hL e c λj g=>d j g (by omega) (λi _=>c i (by omega)) k (by omega)
theorem e_both (hL:L.length<=2000000){b:Rf->Int->Option (Cond×Rf)}{m:Nat}(e:m<=60)(g: ∀j,j<m->EC L b j):EC L (Fa4 b) m:=by
 intro y f h;obtain⟨c,l,n,p2⟩:=aEr hL m e g FU (jL (by omega)) y f h;obtain⟨i,q⟩:=p2;unfold Fa4;simp only [zS,yX];have d:Fbf b y (m:Int)=some (c,l):=n;rw [d,zA];dsimp only;rw [dT q.e0,zI,zA,zI];exact⟨_,_,rfl,i,q⟩
theorem e_either (hL:L.length<=2000000){b:Rf->Int->Option (Cond×Rf)}{m:Nat}(d:m<=60)(e: ∀j,j<m->EC L b j):EC L (Fbp b) m:=by
 intro y f h;obtain⟨_,_,g,i,q⟩:=e_both hL d e y f h;unfold Fbp;simp only [zS,yX];rw [g,zA];dsimp only;rw [dT q.e0,zI,zA,zI];exact⟨_,_,rfl,i,q⟩
theorem aKk (hL:L.length<=2000000): ∀(m:Nat),m<=60-> ∀n,m<n->EC L (Fal n) m:=by
 intro m
 induction m using Nat.strongRecOn with
 |ind m b=>
  intro d n _;obtain⟨k,rfl⟩: ∃k,n=k+1:=⟨n-1,by omega⟩;intro y f h;obtain⟨c,_,e,p2⟩:=e_either hL d (λj g=>b j g (by omega) k (by omega)) y f h;show∃c l,Fa7 (Fal k) y (m:Int)=some (c,l)/\_;unfold Fa7;rw [yX,e,zA];exact⟨_,_,rfl,p2⟩
end
theorem eG {x:gB}{r:Rules}(h:x.r=r):gB.mk x.text x.at_ (gK.mk x.now.kind x.now.at_ x.now.n x.now.text) (Rules.mk r.Phases r.Moves r.Rules)=x:=by subst h;rfl
theorem fix_n {x:gB}{r:Rules}(h:x.r=r):gB.mk x.text x.at_ x.now (Rules.mk r.Phases r.Moves r.Rules)=x:=by subst h;rfl
theorem jV {b α β:Type}(a:α)(k:α->Option (Except b β)):thr (.ok a) k=k a:=rfl
theorem kC {b α β:Type}(f:b)(k:α->Option (Except b β)):thr (.error f) k=some (.error f):=rfl
theorem wS (x:gB)(e:Int):Fao (some x) e=some (.error (gQ.mk x.now.at_ e)):=rfl
theorem wZ {y:Rf}(h:y.e=0)(a b:Int):Fak y a b=some (gG.mk y.l y.at_ a b):=by
 unfold Fak;simp only [zS];rw [dT h,zI]
section
variable {s:Str}{r0:Rules}{L:List Tk}{x:gB}{y:Rf}{i a:Nat}{t:Tk}{rest:List Tk}
theorem RS.fe (h:RS s r0 L x y i a t rest)(e:Int)(b:e≠0):EE L (gG.mk y.l y.at_ t.at_ e) (gQ.mk x.now.at_ e) i:=
 ⟨h.yl,h.yi,h.il,rfl,by rw [h.now];rfl,b⟩
theorem aIk {t:Tk}{K:Int}(b:K=2\/K=3):(conv t).kind=K↔t.kind=K:=by
 unfold conv;dsimp only;split
 ·rename_i _;omega
 ·exact Iff.rfl
theorem aFz (h:RS s r0 L x y i a t rest) (hs:s.length<=1000000) (hL:L.length<=2000000) {K:Int} (l:K=2\/K=3):
  (∃j b k,Fbg x K=some (.ok (conv t,j))/\Faa y K=some (t,b)/\t.kind=K/\Rk s r0 L j b k/\k<rest.length)\/
  (∃f m b,Fbg x K=some (.error f)/\Faa y K=some (m,b)/\Er L b f):=by
 unfold Fbg Faa;simp only [zS,yU,yX];rw [rV h,zA,eG (rfl:x.r=x.r)]
 by_cases g:t.kind=K
 ·have c:x.now.kind=K:=by rw [h.now];exact(aIk l).2 g
  obtain⟨b,n,q⟩:=aAf h hs hL;rw [qD (by simpa using c: ¬x.now.kind≠K),zH,qD (by simpa using g: ¬t.kind≠K),zH,zA];dsimp only;rw [yX,n,zA];rcases q with ⟨j,k,o,a2,a3,a4⟩|⟨f,o,a2⟩
  ·left
   obtain⟨p,u,m,d,q,v⟩:=a2;refine⟨j,b,k,?_,rfl,g,⟨p,u,m,d,q,v⟩,a4 (by rcases l with e|e<;>omega)⟩;rw [o,zA,jV,eG (q.xr.trans h.xr.symm),h.now]
  ·right
   refine⟨f,t,b,?_,rfl,a2⟩;rw [o,zA,kC]
 ·have c:x.now.kind≠K:=by rw [h.now];exact λe=>g ((aIk l).1 e)
  right
  obtain⟨b,n,w⟩:=sQ hL ⟨i,h.fe 6 (by decide)⟩;rw [dT c,zI,wS,zA,kC,dT g,zI,wZ h.ye,zA,zA];dsimp only;rw [n,zA];exact⟨_,_,_,rfl,rfl,w.er⟩
theorem aBe (h:RS s r0 L x y i a t rest) (hs:s.length<=1000000) (hL:L.length<=2000000):
  (∃d b k,Faf x=some (.ok (t.text,d))/\Faa y 2=some (t,b)/\t.text.length<=s.length/\Rk s r0 L d b k/\k<rest.length)\/
  (∃f g b,Faf x=some (.error f)/\Faa y 2=some (g,b)/\Er L b f):=by
 unfold Faf;rw [eG (rfl:x.r=x.r)];rcases aFz h hs hL (K:=2) (Or.inl rfl)with ⟨d,b,k,j,a2,a3,a4,a5⟩|⟨f,g,b,j,a2,a3⟩
 ·left
  have m:=a4;obtain⟨_,_,g,_,q,_⟩:=m;refine⟨d,b,k,?_,a2,?_,a4,a5⟩
  ·rw [j,zA,jV];dsimp only;rw [eG (q.xr.trans h.xr.symm)];rfl
  ·rcases h.c with ⟨e,-,-⟩|⟨e,-⟩
   ·rw [e];exact Nat.zero_le _
   ·exact e.l
 ·right
  refine⟨f,g,b,?_,a2,a3⟩;rw [j,zA,kC]
theorem aBt (h:RS s r0 L x y i a t rest) (hs:s.length<=1000000) (hL:L.length<=2000000):
  (∃d b k,Fap x=some (.ok (t.n,d))/\Faa y 3=some (t,b)/\i64 t.n/\Rk s r0 L d b k/\k<rest.length)\/
  (∃f g b,Fap x=some (.error f)/\Faa y 3=some (g,b)/\Er L b f):=by
 unfold Fap;rw [eG (rfl:x.r=x.r)];rcases aFz h hs hL (K:=3) (Or.inr rfl)with ⟨d,b,k,j,a2,a3,a4,a5⟩|⟨f,g,b,j,a2,a3⟩
 ·left
  have l:=a4;obtain⟨_,_,g,_,q,_⟩:=l;refine⟨d,b,k,?_,a2,?_,a4,a5⟩
  ·rw [j,zA,jV];dsimp only;rw [eG (q.xr.trans h.xr.symm)];unfold conv;dsimp only;rw [if_pos a3]
  ·unfold i64;rcases h.c with ⟨e,-,-⟩|⟨e,-⟩
   ·rw [e];exact⟨by show _<=(0:Int);decide,by show(0:Int)<=_;decide⟩
   ·have:=e.n;omega
 ·right
  refine⟨f,g,b,?_,a2,a3⟩;rw [j,zA,kC]
theorem must_sim (h:RS s r0 L x y i a t rest) (hs:s.length<=1000000) (hL:L.length<=2000000) (w:Str) (m:w∈kws\/w=[40]\/w=[41]):
  (∃d c k,Fas x w=some (.ok d)/\Faj y w=some c/\Rk s r0 L d c k/\k<rest.length)\/
  (∃f c,Fas x w=some (.error f)/\Faj y w=some c/\Er L c f):=by
 obtain⟨b,n,o,p,_⟩:=rW h w m;unfold Fas Faj;simp only [zS,yU,yX];rw [n,zA,o,zA,eG (rfl:x.r=x.r)]
 cases b with
 |true=>
  obtain⟨c,e,q⟩:=aAf h hs hL;rw [Bool.not_true,zH,zH,zA];dsimp only;rw [yX,e,zA];rcases q with ⟨d,k,g,a2,a3,a4⟩|⟨f,g,a2⟩
  ·left
   have j:=a2;obtain⟨_,_,_,_,q,_⟩:=j;refine⟨d,c,k,?_,rfl,a2,a4 (by have:=(p rfl).1;omega)⟩;rw [g,zA,jV,eG (q.xr.trans h.xr.symm)]
  ·right
   refine⟨f,c,?_,rfl,a2⟩;rw [g,zA,kC]
 |false=>
  right
  obtain⟨c,e,u⟩:=sQ hL ⟨i,h.fe 6 (by decide)⟩;rw [Bool.not_false,zI,wS,zA,kC,zI,rV h,zA,wZ h.ye,zA,zA];dsimp only;rw [e,zA];exact⟨_,_,rfl,rfl,u.er⟩
def SimC (s:Str)(r0:Rules)(L:List Tk)(A:Option (Except gQ (Cond×gB)))(B:Option (Cond×Rf))(k:Nat):Prop:=
 (∃c d b e,A=some (.ok (c,d))/\B=some (c,b)/\okC c/\Rk s r0 L d b e/\e<k)\/(∃f c b,A=some (.error f)/\B=some (c,b)/\Er L b f)
theorem aEd {u:Str}(h:u.length<=s.length)(hs:s.length<=1000000):okS u:=by unfold okS;omega
theorem mW {k:Int}{b c:Str}{d n e:Int}(g:i64 k)(h:okS b)(j:okS c)(l:i64 d)(m:i64 n)(o:i64 e):okC (Cond.mk k b c d n e []):=by
 rw [okC,aIi];exact⟨⟨g,h,j,l,m,o⟩,by simp,trivial⟩
def opIx (u:Str):Int:=match zU.l.findIdx? (λx=>decide (x=u))with |some i=>(i:Int)|none=> -1

theorem idx_ops (u:Str):Fbt zU.l u=some (opIx u):=by
 unfold Fbt Fe9;simp only [yU,zS];rw [yZ zU.l (λi x=>if decide (x=u)=true then some (some (i:Int))else none) (some (-1)) (by decide) ?_ ?_]
 ·have b: ∀(l:List Str) (i:Nat),aH (λi x=>if decide (x=u)=true then some (some (i:Int))else none) (some (-1)) l i=some (match l.findIdx? (λx=>decide (x=u))with |some j=>((i+j:Nat):Int)|none=> -1):=by
   intro l
   induction l with
   |nil=>intro i;rfl
   |cons a l c=>
    intro i;rw [aH,List.findIdx?_cons]
    by_cases q:a=u
    ·rw [dT q,if_pos rfl,if_pos rfl];rfl
    ·rw [qD q,if_neg (by decide),if_neg (by decide)];dsimp only;rw [c (i+1)]
     cases l.findIdx? (λx=>decide (x=u))with
     |none=>rfl
     |some j=>show some (((i+1+j:Nat):Int))=some (((i+(j+1):Nat):Int));rw [show i+1+j=i+(j+1)by omega]
  rw [b];unfold opIx
  cases zU.l.findIdx? (λx=>decide (x=u))with
  |none=>rfl
  |some j=>show some (((0+j:Nat):Int))=_;rw [Nat.zero_add]
 ·intro d i x g hi;rw [xJ hi,zI,bD g,zA]
  by_cases q:x=u
  ·rw [dT (by first |exact q|exact q.symm),zI,dT q,if_pos rfl]
  ·rw [qD (by first |exact q|exact λe=>q e.symm),zH,qD q,if_neg (by decide),dM hi (by decide)]
 ·intro d;rw [xI,zH]
theorem aGw (h:RS s r0 L x y i a t rest) (hs:s.length<=1000000) (hL:L.length<=2000000):SimC s r0 L (Fdq x) (Fbv y) rest.length:=by
 unfold Fdq Fbv;simp only [zS,yU,yX];rw [eG (rfl:x.r=x.r)];rcases aBe h hs hL with ⟨d,Q,_,D,a2,a3,a4,a5⟩|⟨f,_,_,D,a2,a3⟩
 rotate_left
 ·right
  obtain⟨t2,B,R,g2⟩:=aQ hL a3 (K:=4) (by decide);obtain⟨i3,b⟩:=g2;obtain⟨t3,-,g⟩:=vJ b;obtain⟨t4,O,j,g4⟩:=aQ hL (Or.inl ⟨i3,b⟩) (K:=2) (by decide);obtain⟨t5,P,l,g5⟩:=aQ hL (Or.inl ⟨i3,b⟩) (K:=3) (by decide);rw [D,zA,kC,a2,zA,R,zA,g,zA,j,l,zA,zA]
  cases decide (t3.kind=2)with
  |true=>rw [zI];exact⟨_,_,_,rfl,rfl,g4.er⟩
  |false=>rw [zH];exact⟨_,_,_,rfl,rfl,g5.er⟩
 obtain⟨S,_,t1,_,e,rfl⟩:=a4;rw [D,zA,jV,a2,zA];dsimp only;rw [idx_ops,zA,eG (e.xr.trans h.xr.symm)];have T:d.now=conv t1:=e.now;have F:(t1.kind=4/\(opIx d.now.text)=t1.n/\1<=t1.n/\t1.n<=6/\d.now.kind=4)\/(t1.kind≠4/\(d.now.kind≠4\/(opIx d.now.text)<1)):=by
  rw [T];unfold conv;dsimp only;rcases e.c with ⟨w,-,-⟩|⟨w,-⟩
  ·right;rw [w];exact⟨by show(0:Int)≠4;decide,Or.inl (by show(if (0:Int)=5 then(4:Int)else 0)≠4;decide)⟩
  ·rcases w.k with q|q|q|q|q|q
   ·right;rw [q];exact⟨by decide,Or.inl (by decide)⟩
   ·right;rw [q];exact⟨by decide,Or.inl (by decide)⟩
   ·right;rw [q];exact⟨by decide,Or.inl (by decide)⟩
   ·left
    rw [q];rcases w.o q with z|z|z|z|z|z<;>(injection z with X z2;rw [X,z2];exact⟨rfl,by decide,by decide,by decide,by decide⟩)
   ·right
    rw [q];refine⟨by decide,Or.inr ?_⟩;rcases w.p q with z|z<;>(rw [z];decide)
   ·exact absurd q e.k6
 rcases F with ⟨G,C,o3,_,Y⟩|⟨G,C⟩
 rotate_left
 ·right
  have m:(gV (decide (d.now.kind≠4)) (some true) (some (decide ((opIx d.now.text)<1))))=some true:=by
   by_cases z:d.now.kind≠4
   ·rw [dT z,zI]
   ·rw [qD z,zH,dT (by rcases C with o|o;exact absurd o z;exact o)]
  rw [m,zA,zI,wS,zA,kC];unfold Faa;simp only [zS,yX];obtain⟨B,H,n2⟩:=sQ hL ⟨S,e.fe 6 (by decide)⟩;obtain⟨i3,b⟩:=n2;obtain⟨t3,-,g⟩:=vJ b;obtain⟨t4,O,j,g4⟩:=aQ hL (Or.inl ⟨i3,b⟩) (K:=2) (by decide);obtain⟨t5,P,l,g5⟩:=aQ hL (Or.inl ⟨i3,b⟩) (K:=3) (by decide);unfold Faa at j l;simp only [zS,yX]at j l;rw [rV e,zA,dT G,zI,wZ e.ye,zA,zA];dsimp only;rw [H,zA,zA];dsimp only;rw [g,zA];rw [g,zA]at j l
  cases decide (t3.kind=2)with
  |true=>rw [zI,zA,j,zA];exact⟨_,_,_,rfl,rfl,g4.er⟩
  |false=>rw [zH,zA,l,zA];exact⟨_,_,_,rfl,rfl,g5.er⟩
 ·have m:(gV (decide (d.now.kind≠4)) (some true) (some (decide ((opIx d.now.text)<1))))=some false:=by
   rw [qD (by rw [Y];decide),zH,qD (by rw [C];omega)]
  rw [m,zA,zH,C];obtain⟨B,H,q⟩:=aAf e hs hL;have tk:Faa Q 4=some (t1,B):=by
   unfold Faa;simp only [zS,yX];rw [rV e,zA,qD (by simpa using G: ¬t1.kind≠4),zH,zA];dsimp only;rw [yX,H,zA]
  rw [tk,zA];dsimp only;rcases q with ⟨x2,_,I,c2,c3,c4⟩|⟨f,I,c2⟩
  ·obtain⟨i2,_,t2,_,A,rfl⟩:=c2;have c4:=c4 (by omega);rw [I,zA,jV,rV A,zA,eG (A.xr.trans h.xr.symm)];have hk:decide (x2.now.kind=2)=decide (t2.kind=2):=by rw [decide_eq_decide,A.now];exact aIk (Or.inl rfl)
   rw [hk]
   cases decide (t2.kind=2)with
   |true=>
    rw [zI,zI];rcases aBe A hs hL with ⟨M,u,N,d1,d2,d3,d4,d5⟩|⟨f,t3,u,d1,d2,d3⟩
    ·left
     have v:=d4;obtain⟨_,_,_,_,b,-⟩:=v;refine⟨_,M,u,N,?_,by rw [d2,zA],?_,d4,by omega⟩
     ·rw [d1,zA,jV];dsimp only;rw [eG (b.xr.trans h.xr.symm)]
     ·exact mW ⟨by decide,by decide⟩ (aEd a3 hs) (aEd d3 hs) ⟨by omega,by omega⟩ ⟨by decide,by decide⟩ ⟨by decide,by decide⟩
    ·right
     exact⟨f,_,u,by rw [d1,zA,kC],by rw [d2,zA],d3⟩
   |false=>
    rw [zH,zH];rcases aBt A hs hL with ⟨M,u,N,d1,d2,d3,d4,d5⟩|⟨f,t3,u,d1,d2,d3⟩
    ·left
     have v:=d4;obtain⟨_,_,_,_,b,-⟩:=v;refine⟨_,M,u,N,?_,by rw [d2,zA],?_,d4,by omega⟩
     ·rw [d1,zA,jV];dsimp only;rw [eG (b.xr.trans h.xr.symm)]
     ·exact mW ⟨by decide,by decide⟩ (aEd a3 hs) (by unfold okS;simp) ⟨by omega,by omega⟩ d3 ⟨by decide,by decide⟩
    ·right
     exact⟨f,_,u,by rw [d1,zA,kC],by rw [d2,zA],d3⟩
  ·right
   rw [I,zA,kC];have nw: ∃t3,Fae B=some t3:=by
    rcases c2 with ⟨i3,b⟩|⟨i3,t3,b⟩
    ·obtain⟨t3,-,g⟩:=vJ b;exact⟨t3,g⟩
    ·exact⟨t3,aDh b⟩
   obtain⟨t3,g⟩:=nw;obtain⟨t4,O,j,g4⟩:=aQ hL c2 (K:=2) (by decide);obtain⟨t5,P,l,g5⟩:=aQ hL c2 (K:=3) (by decide);rw [g,zA,j,l,zA,zA]
   cases decide (t3.kind=2)with
   |true=>rw [zI];exact⟨_,_,_,rfl,rfl,g4.er⟩
   |false=>rw [zH];exact⟨_,_,_,rfl,rfl,g5.er⟩
end
def Sim (s:Str)(r0:Rules)(L:List Tk){α β:Type}(V:α->β->Prop)(A:Option (Except gQ (α×gB)))(B:Option (β×Rf))(k:Nat):Prop:=
 (∃v w c b d,A=some (.ok (v,c))/\B=some (w,b)/\V v w/\Rk s r0 L c b d/\d<k)\/(∃f w b,A=some (.error f)/\B=some (w,b)/\Er L b f)
def Sim0 (s:Str)(r0:Rules)(L:List Tk)(A:Option (Except gQ gB))(B:Option Rf)(k:Nat):Prop:=
 (∃c b d,A=some (.ok c)/\B=some b/\Rk s r0 L c b d/\d<k)\/(∃f b,A=some (.error f)/\B=some b/\Er L b f)
def EG (L:List Tk){β:Type}(B:Option (β×Rf))(f:gQ):Prop:= ∃w b,B=some (w,b)/\Er L b f
def EG0 (L:List Tk)(B:Option Rf)(f:gQ):Prop:= ∃b,B=some b/\Er L b f
section
variable {s:Str}{r0:Rules}{L:List Tk}{α β γ δ:Type}{k:Nat}{f:gQ}
theorem eF {B:Option (β×Rf)}{G:β×Rf->Option (δ×Rf)}(h:EG L B f)(g: ∀w b,Er L b f->EG L (G (w,b)) f):EG L (gI B G) f:=by
 obtain⟨w,b,rfl,e⟩:=h;rw [zA];exact g w b e
theorem vG {B:Option Rf}{G:Rf->Option (δ×Rf)}(h:EG0 L B f)(g: ∀b,Er L b f->EG L (G b) f):EG L (gI B G) f:=by
 obtain⟨b,rfl,e⟩:=h;rw [zA];exact g b e
theorem dE {w:β}{y:Rf}(h:Er L y f):EG L (some (w,gG.mk y.l y.at_ y.pos y.e)) f:=⟨w,y,rfl,h⟩
theorem cZ (hL:L.length<=2000000){y:Rf}(h:Er L y f){K:Int}(c:K≠6):EG L (Faa y K) f:=by
 obtain⟨t,d,a,b⟩:=aQ hL h c;exact⟨t,d,a,b.er⟩
theorem mD (hL:L.length<=2000000){y:Rf}(h:Er L y f)(w:Str):EG0 L (Faj y w) f:=by
 obtain⟨c,a,b⟩:=aHy hL h w;exact⟨c,a,b.er⟩
theorem jU {g:Rf->Int->Option (Cond×Rf)}{m:Nat}(h:EC L g m){y:Rf}(e:Er L y f):EG L (g y (m:Int)) f:=by
 obtain⟨c,d,a,b⟩:=h y f e;exact⟨c,d,a,b.er⟩
theorem dK {V:α->β->Prop}{W:γ->δ->Prop}{A:Option (Except gQ (α×gB))}{B:Option (β×Rf)}{F:α×gB->Option (Except gQ (γ×gB))}{G:β×Rf->Option (δ×Rf)}{l:Nat}
  (h:Sim s r0 L V A B l) (le:l<=k) (g: ∀v w d c j,V v w->j<k->Rk s r0 L d c j->Sim s r0 L W (F (v,d)) (G (w,c)) k) (e: ∀f w c,Er L c f->EG L (G (w,c)) f):
  Sim s r0 L W (gI A λz=>thr z F) (gI B G) k:=by
 rcases h with ⟨v,w,d,c,j,rfl,rfl,m,n,_⟩|⟨f,w,c,rfl,rfl,q⟩
 ·rw [zA,zA,jV];exact g v w d c j m (by omega) n
 ·obtain⟨o,p,a,b⟩:=e f w c q
  right
  exact⟨f,o,p,by rw [zA,kC],by rw [zA,a],b⟩
theorem dS {W:γ->δ->Prop}{A:Option (Except gQ gB)}{B:Option Rf}{F:gB->Option (Except gQ (γ×gB))}{G:Rf->Option (δ×Rf)}{l:Nat}
  (h:Sim0 s r0 L A B l) (le:l<=k) (g: ∀d c j,j<k->Rk s r0 L d c j->Sim s r0 L W (F d) (G c) k) (e: ∀f c,Er L c f->EG L (G c) f):
  Sim s r0 L W (gI A λz=>thr z F) (gI B G) k:=by
 rcases h with ⟨d,c,j,rfl,rfl,m,_⟩|⟨f,c,rfl,rfl,q⟩
 ·rw [zA,zA,jV];exact g d c j (by omega) m
 ·obtain⟨n,o,a,b⟩:=e f c q
  right
  exact⟨f,n,o,by rw [zA,kC],by rw [zA,a],b⟩
theorem Rk.xr {x:gB}{y:Rf}(h:Rk s r0 L x y k):x.r=r0:=by obtain⟨_,_,_,_,q,_⟩:=h;exact q.xr
theorem aF {V:α->β->Prop}{v:α}{w:β}{x:gB}{y:Rf}{b:Nat}(c:Rk s r0 L x y b)(d:b<k)(g:V v w):
  Sim s r0 L V (some (.ok (v,x))) (some (w,gG.mk y.l y.at_ y.pos y.e)) k:=Or.inl ⟨v,w,x,y,b,rfl,rfl,g,c,d⟩
theorem Sim.mono {V:α->β->Prop}{A:Option (Except gQ (α×gB))}{B:Option (β×Rf)}{g:Nat}(h:Sim s r0 L V A B k)(n:k<=g):Sim s r0 L V A B g:=by
 rcases h with ⟨v,w,j,l,m,a,b,c,d,_⟩|h
 ·exact Or.inl ⟨v,w,j,l,m,a,b,c,d,by omega⟩
 ·exact Or.inr h
def Vc (c d:Cond):Prop:=c=d/\okC d
theorem simC_sim {A:Option (Except gQ (Cond×gB))}{B:Option (Cond×Rf)}(h:SimC s r0 L A B k):Sim s r0 L Vc A B k:=by
 rcases h with ⟨c,d,e,g,a,b,o,r,l⟩|h
 ·exact Or.inl ⟨c,c,d,e,g,a,b,⟨rfl,o⟩,r,l⟩
 ·exact Or.inr h
section
variable {x:gB}{y:Rf} (hs:s.length<=1000000) (hL:L.length<=2000000)
include hs hL
theorem uK (h:Rk s r0 L x y k):Sim s r0 L (λ(v:Str) (t:Tk)=>t.text=v/\okS v) (Faf x) (Faa y 2) k:=by
 obtain⟨i,a,t,rest,q,rfl⟩:=h;rcases aBe q hs hL with ⟨d,b,e,c,a2,a3,a4,a5⟩|⟨f,g,b,c,a2,a3⟩
 ·exact Or.inl ⟨_,t,d,b,e,c,a2,⟨rfl,aEd a3 hs⟩,a4,a5⟩
 ·exact Or.inr ⟨f,g,b,c,a2,a3⟩
theorem pR (h:Rk s r0 L x y k):Sim s r0 L (λ(v:Int) (t:Tk)=>t.n=v/\i64 v) (Fap x) (Faa y 3) k:=by
 obtain⟨i,a,t,rest,q,rfl⟩:=h;rcases aBt q hs hL with ⟨d,b,e,c,a2,a3,a4,a5⟩|⟨f,g,b,c,a2,a3⟩
 ·exact Or.inl ⟨_,t,d,b,e,c,a2,⟨rfl,a3⟩,a4,a5⟩
 ·exact Or.inr ⟨f,g,b,c,a2,a3⟩
theorem aFk (h:Rk s r0 L x y k)(w:Str)(d:w∈kws\/w=[40]\/w=[41]):Sim0 s r0 L (Fas x w) (Faj y w) k:=by
 obtain⟨i,a,t,rest,q,rfl⟩:=h;rcases must_sim q hs hL w d with ⟨e,b,g,c,a2,a4,a5⟩|⟨f,b,c,a2,a3⟩
 ·exact Or.inl ⟨e,b,g,c,a2,a4,a5⟩
 ·exact Or.inr ⟨f,b,c,a2,a3⟩
theorem aFr {i a:Nat}{t:Tk}{rest:List Tk}(h:RS s r0 L x y i a t rest)(e:t.kind≠0):Sim0 s r0 L (Fab x) (Fad y) rest.length:=by
 obtain⟨c,d,q⟩:=aAf h hs hL;rcases q with ⟨g,k,b,a2,a3,a4⟩|⟨f,b,a2⟩
 ·exact Or.inl ⟨g,c,k,b,d,a2,a4 e⟩
 ·exact Or.inr ⟨f,c,b,d,a2⟩
end
theorem thr_as {A:Option (Except gQ (α×gB))}{F:α×gB->Option (Except gQ (γ×gB))}{G:γ×gB->Option (Except gQ (δ×gB))}:
  gI (gI A λz=>thr z F) (λz=>thr z G)=gI A λz=>thr z λv=>gI (F v) λz=>thr z G:=by
 cases A with
 |none=>rfl
 |some a=>cases a<;>rfl
end
theorem apc {α:Type}{n:Nat}{l:List α}{a:α}(b:n<=128)(h:l.length<=10000000):app' n l [a]=some (l++[a]):=by
 have m:n*(l.length+1)<=128*10000001:=Nat.mul_le_mul b (by omega);have q:(l.length+1)*n<=140737488355328:=by rw [Nat.mul_comm];omega
 unfold app';simp only [List.length_cons,List.length_nil,Nat.zero_add];rw [if_pos ⟨by unfold maxLen;omega,q⟩]
theorem aKp {γ β:Type}(body:(γ->Option β)->γ->Option β)(g:γ): ∃b:γ->Option β,∃n,b=eU body (n+3)/\fG body g=body b g:=by
 refine⟨_,18446744073709551612,rfl,?_⟩;unfold fG;rw [show FU=18446744073709551612+4 by unfold FU;rfl];rfl
theorem kids1 {d:gB->Int->Option (Except gQ (Cond×gB))}{x:gB}{n:Int}(q:0<=n)(u:n<=60):
  Faq d 1 x n=gI (d x (n+1)) λz=>thr z λv=>some (.ok ([v.1],gB.mk v.2.text v.2.at_ (gK.mk v.2.now.kind v.2.now.at_ v.2.now.n v.2.now.text) (Rules.mk x.r.Phases x.r.Moves x.r.Rules))):=by
 unfold Faq Feh;simp only [zS,yU];obtain⟨_,_,p,e⟩:=aKp (λh (g:(List Cond)×Int×Str×Int×Int×Int×Int×Str)=>match g with |⟨g305,g307,g308,g309,g310,g311,g312,g313⟩=>gV (decide (g307<(1:Int))) (gI (d (gB.mk g308 g309 (gK.mk g310 g311 g312 g313) (Rules.mk x.r.Phases x.r.Moves x.r.Rules)) (IntKind.i64.wrap (n+1))) λl=>thr l λ⟨m,c⟩=>gI (app' 88 g305 ([m]:List Cond)) λo=>h (o,IntKind.i64.wrap (g307+1),c.text,c.at_,c.now.kind,c.now.at_,c.now.n,c.now.text)) (some (.ok (g305,gB.mk g308 g309 (gK.mk g310 g311 g312 g313) (Rules.mk x.r.Phases x.r.Moves x.r.Rules))))) ([],0,x.text,x.at_,x.now.kind,x.now.at_,x.now.n,x.now.text);refine e.trans ?_;dsimp only;rw [dT (by decide:(0:Int)<1),zI,wrap_i64 (n:=n+1) (by omega) (by omega),mk_x]
 congr 1
 funext z
 congr 1
 funext v
 obtain⟨_,v2⟩:=v;dsimp only;rw [apc (by decide) (by decide),zA,p];rfl
theorem kids2 {d:gB->Int->Option (Except gQ (Cond×gB))}{x:gB}{n:Int}(q:0<=n)(w:n<=60):
  Faq d 2 x n=gI (d x (n+1)) λz=>thr z λv=>gI (d (gB.mk v.2.text v.2.at_ (gK.mk v.2.now.kind v.2.now.at_ v.2.now.n v.2.now.text) (Rules.mk x.r.Phases x.r.Moves x.r.Rules)) (n+1)) λz=>thr z λu=>some (.ok ([v.1,u.1],gB.mk u.2.text u.2.at_ (gK.mk u.2.now.kind u.2.now.at_ u.2.now.n u.2.now.text) (Rules.mk x.r.Phases x.r.Moves x.r.Rules))):=by
 unfold Faq Feh;simp only [zS,yU];obtain⟨_,_,p,e⟩:=aKp (λh (g:(List Cond)×Int×Str×Int×Int×Int×Int×Str)=>match g with |⟨g305,g307,g308,g309,g310,g311,g312,g313⟩=>gV (decide (g307<(2:Int))) (gI (d (gB.mk g308 g309 (gK.mk g310 g311 g312 g313) (Rules.mk x.r.Phases x.r.Moves x.r.Rules)) (IntKind.i64.wrap (n+1))) λl=>thr l λ⟨m,c⟩=>gI (app' 88 g305 ([m]:List Cond)) λo=>h (o,IntKind.i64.wrap (g307+1),c.text,c.at_,c.now.kind,c.now.at_,c.now.n,c.now.text)) (some (.ok (g305,gB.mk g308 g309 (gK.mk g310 g311 g312 g313) (Rules.mk x.r.Phases x.r.Moves x.r.Rules))))) ([],0,x.text,x.at_,x.now.kind,x.now.at_,x.now.n,x.now.text);refine e.trans ?_;dsimp only;rw [dT (by decide:(0:Int)<2),zI,wrap_i64 (n:=n+1) (by omega) (by omega),mk_x]
 congr 1
 funext z
 congr 1
 funext v
 obtain⟨_,v2⟩:=v;dsimp only;rw [apc (by decide) (by decide),zA,p];show gI (d _ (IntKind.i64.wrap (n+1))) _=_;rw [wrap_i64 (n:=n+1) (by omega) (by omega)]
 congr 1
theorem begP {s:Str}{r0:Rules}{L:List Tk}{x:gB}{y:Rf}{i a:Nat}{t:Tk}{rest:List Tk} (h:RS s r0 L x y i a t rest):Fcx (some x)=some (beg t)/\
  (beg t=true->(t.kind=2)\/(t.kind=5/\t.text=[40])\/(t.kind=1/\t.text∈([[116,114,117,101],[102,97,108,115,101],[115,116,101,97,100,121],[112,104,97,115,101],[114,117,108,101],[110,111,116],[102,111,114],[119,105,116,104,105,110],[99,111,117,110,116],[114,105,115,101,115],[115,105,110,99,101]]:List Str))):=by
 obtain⟨b,r,_,l,v⟩:=rW h [40] (Or.inr (Or.inl rfl));have n:([[116,114,117,101],[102,97,108,115,101],[115,116,101,97,100,121],[112,104,97,115,101],[114,117,108,101],[110,111,116],[102,111,114],[119,105,116,104,105,110],[99,111,117,110,116],[114,105,115,101,115],[115,105,110,99,101]]:List Str) ⊆ kws:=by decide
 unfold Fcx beg;simp only [zS,zA];rw [r,zA,vK _ _ (by decide),zA,h.now];generalize ([[116,114,117,101],[102,97,108,115,101],[115,116,101,97,100,121],[112,104,97,115,101],[114,117,108,101],[110,111,116],[102,111,114],[119,105,116,104,105,110],[99,111,117,110,116],[114,105,115,101,115],[115,105,110,99,101]]:List Str)=W at n⊢;have w:(W.any λz=>decide ((conv t).text=z))=decide (t.text∈W):=by
  rw [List.any_eq];exact decide_eq_decide.2 ⟨λ⟨z,A,z2⟩=>by rw [show t.text=z from of_decide_eq_true z2];exact A,λz=>⟨_,z,dT rfl⟩⟩
 rw [w];have fin: ∀(u:Str) (K:Int),t.text=u->t.kind=K->gV (decide ((conv t).kind=2)) (some true) (gV (decide ((conv t).kind=1)) (some (decide (t.text∈W))) (some b))=gV (decide ((if K=5 then 4 else K)=2)) (some true) (gV (decide ((if K=5 then 4 else K)=1)) (some (decide (u∈W))) (some b)):=λu K B C=>by subst B;subst C;rfl
 rw [fin t.text t.kind rfl rfl];rcases h.c with ⟨e,-,-⟩|⟨e,-⟩
 ·have D:t.kind=0:=by rw [e];rfl
  have t0:t.text=[]:=by rw [e];rfl
  have g:b=false:=by
   cases b with
   |false=>rfl
   |true=>have:=(l rfl).2;rw [t0]at this;cases this
  have d: ¬([]:Str)∈W:=λz=>absurd (n z) (by decide)
  rw [D,t0,g,if_neg (by decide),qD (by decide),zH,qD (by decide),zH,if_neg d,if_neg (by decide)];exact⟨rfl,λz=>by cases z⟩
 ·rcases e.k with q|q|q|q|q|q
  ·rw [q,if_neg (by decide),qD (by decide),zH,dT rfl,zI]
   by_cases d:t.text∈W
   ·rw [if_pos d,dT d];exact⟨rfl,λ_=>Or.inr (Or.inr ⟨rfl,d⟩)⟩
   ·rw [if_neg d,qD d];refine⟨?_,λz=>?_⟩
    ·split<;>rfl
    ·exfalso;revert z;split<;>decide
  ·obtain⟨m1,m2,m3⟩:=e.m q;have d: ¬t.text∈W:=λz=>m1 (n z)
   have j:t.text≠[40]:=λz=>by rw [z]at m3;exact absurd m3 (by decide)
   rw [q,if_neg (by decide),dT rfl,zI,if_neg d,if_neg j];exact⟨rfl,λ_=>Or.inl rfl⟩
  ·have g:b=false:=by
    cases b with
    |false=>rfl
    |true=>have:=(l rfl).1;omega
   rw [q,g,if_neg (by decide),qD (by decide),zH,qD (by decide),zH];refine⟨?_,λz=>?_⟩
   ·split
    ·rfl
    ·split<;>rfl
   ·exfalso;revert z;split
    ·decide
    ·split<;>decide
  ·have g:b=false:=by
    cases b with
    |false=>rfl
    |true=>have:=(l rfl).1;omega
   rw [q,g,if_neg (by decide),qD (by decide),zH,qD (by decide),zH];refine⟨?_,λz=>?_⟩
   ·split
    ·rfl
    ·split<;>rfl
   ·exfalso;revert z;split
    ·decide
    ·split<;>decide
  ·have d: ¬t.text∈W:=λz=>by rcases e.p q with o|o<;>(rw [o]at z;exact absurd (n z) (by decide))
   rw [q,if_pos rfl,qD (by decide),zH,qD (by decide),zH,if_neg d]
   by_cases j:t.text=[40]
   ·have E:b=true:=by
     cases b with
     |true=>rfl
     |false=>exact absurd ⟨Or.inr q,j⟩ (v rfl)
    rw [if_pos j,E];exact⟨rfl,λ_=>Or.inr (Or.inl ⟨rfl,j⟩)⟩
   ·have g:b=false:=by
     cases b with
     |false=>rfl
     |true=>exact absurd (l rfl).2 j
    rw [if_neg j,g];exact⟨rfl,λz=>absurd z (by decide)⟩
  ·exact absurd q h.k6
def wV (s:Str)(r0:Rules)(L:List Tk)(A:gB->Int->Option (Except gQ (Cond×gB)))(B:Rf->Int->Option (Cond×Rf))(m:Nat):Prop:=
 ∀x y k,Rk s r0 L x y k->Sim s r0 L Vc (A x (60-(m:Int))) (B y (m:Int)) k
theorem aBj {k b n d:Int}{l:List Cond}(e:i64 k)(g:i64 b)(j:i64 n)(m:i64 d)(o:l.length<=9223372036854775807)(h: ∀c∈l,okC c):okC (Cond.mk k [] [] b n d l):=by
 rw [okC,pX];exact⟨⟨e,by unfold okS;simp,by unfold okS;simp,g,j,m⟩,o,h⟩
theorem vF {k b n e:Int}{c:Cond}(g:i64 k)(j:i64 b)(l:i64 n)(m:i64 e)(h:okC c):okC (Cond.mk k [] [] b n e [c]):=
 aBj g j l m (by simp) λ_ o=>by rw [mS.1 o];exact h
section
variable {s:Str}{r0:Rules}{L:List Tk} (hs:s.length<=1000000) (hL:L.length<=2000000)
include hs hL
omit hs hL in
theorem aHj {g:gB->Int->Option (Except gQ (Cond×gB))}{j:Rf->Int->Option (Cond×Rf)}{m:Nat} (u:m<60) (h:wV s r0 L g j m) {x:gB}{y:Rf}{k:Nat} (o:Rk s r0 L x y k):
  Sim s r0 L (λl d=>l=[d]/\okC d) (Faq g 1 x (60-((m+1:Nat):Int))) (j y (m:Int)) k:=by
 rw [kids1 (by omega) (by omega),show(60-((m+1:Nat):Int))+1=60-(m:Int)by omega];rcases h x y k o with ⟨v,w,p,n,q,a,b,⟨r,c2⟩,d,e⟩|⟨f,w,n,a,b,c⟩
 ·subst r
  left
  refine⟨[v],v,p,n,q,?_,b,⟨rfl,c2⟩,d,e⟩;rw [a,zA,jV];dsimp only;rw [eG (d.xr.trans o.xr.symm)]
 ·right
  exact⟨f,w,n,by rw [a,zA,kC],b,c⟩
theorem part_sim {O P:gB->Int->Option (Except gQ (Cond×gB))}{I J:Rf->Int->Option (Cond×Rf)}{m:Nat} (hm:m<=60)
  (hB: ∀j,j<m->wV s r0 L O I j) (D: ∀j,j<m->wV s r0 L P J j) (eH: ∀j,j<m->EC L I j) (r: ∀j,j<m->EC L J j):
  wV s r0 L (Fcs O P) (Fbb I J) m:=by
 intro x y k Y;obtain⟨i,a,t,rest,h,rfl⟩:=Y;have xr:=h.xr;obtain⟨bg,bk⟩:=begP h;unfold Fcs Fbb;simp only [zS,yU,yX,mk_x];rw [bg,zA,rV h,zA,xO,zA,wS,wS,zA,zA,kC,kC,wZ h.ye,wZ h.ye,zA,zA]
 cases hb:beg t with
 |false=>
  rw [Bool.not_false,zI,zI];exact Or.inr ⟨_,_,_,rfl,rfl,Or.inl ⟨i,h.fe 6 (by decide)⟩⟩
 |true=>
  have bk:=bk hb;rw [Bool.not_true,zH,zH]
  by_cases m0:m=0
  ·rw [dT (by omega:(m:Int)=0),zI,dT (by omega:(60:Int)<=60-(m:Int)),zI];exact Or.inr ⟨_,_,_,rfl,rfl,Or.inl ⟨i,h.fe 3 (by decide)⟩⟩
  obtain⟨j,rfl⟩: ∃j,m=j+1:=⟨m-1,by omega⟩;have hB:=hB j (by omega);have D:=D j (by omega);have eH:=eH j (by omega);have r:=r j (by omega);rw [qD (by omega: ¬((j+1:Nat):Int)=0),zH,qD (by omega: ¬(60:Int)<=60-((j+1:Nat):Int)),zH,
   wrap_i64 (n:=((j+1:Nat):Int)-1) (by omega) (by omega),show((j+1:Nat):Int)-1=(j:Int)by omega,wrap_i64 (n:=60-((j+1:Nat):Int)+1) (by omega) (by omega),show 60-((j+1:Nat):Int)+1=60-(j:Int)by omega]
  have M: ∀{K:Int},t.kind=K->decide (x.now.kind=2)=decide ((if K=5 then 4 else K)=2):=λ {K} e=>by subst e;rw [h.now];rfl
  have l:=aFr hs hL h;have Q:x.now.text=t.text:=by rw [h.now];rfl
  rcases bk with c|⟨c,c2⟩|⟨c,c2⟩
  ·rw [M c,c,dT rfl,zI,if_neg (by decide),dT rfl,zI];exact dK (simC_sim (aGw h hs hL)) (Nat.le_refl _) (λv w _ y' _ hv hk Y=>by dsimp only;rw [eG (Y.xr.trans xr.symm)];exact aF Y hk hv) (λf w y' e=>dE e)
  ·rw [M c,c,show decide ((if (5:Int)=5 then(4:Int)else 5)=2)=false from rfl,zH,show decide ((5:Int)=2)=false from rfl,zH,show decide ((5:Int)=5)=true from rfl,zI,dT c2,zA,zI,Q,c2];refine dS (l (by rw [c];decide)) (Nat.le_refl _) (λu z A l1 b=>?_) (λf y' e=>?_)
   ·iterate 11 rw [qD (by decide),zH]
    rw [eG (b.xr.trans xr.symm)];refine dK (hB u z A b) (Nat.le_of_lt l1) (λv w E F G hv l2 g=>?_) (λf w y' e=>?_)
    ·dsimp only;rw [eG (g.xr.trans xr.symm)];refine dS (aFk hs hL g [41] (Or.inr (Or.inr rfl))) (Nat.le_of_lt l2) (λR S T C q=>?_) (λf y' e=>?_)
     ·rw [eG (q.xr.trans xr.symm)];exact aF q C hv
     ·exact dE e
    ·dsimp only;exact vG (mD hL e _) λy e=>dE e
   ·exact eF (jU eH e) λw y e=>vG (mD hL e _) λy e=>dE e
  ·rw [M c,c,show decide ((if (1:Int)=5 then(4:Int)else 1)=2)=false from rfl,zH,show decide ((1:Int)=2)=false from rfl,zH,show decide ((1:Int)=5)=false from rfl,zH,zA,zH,Q];simp only [List.mem_cons,List.not_mem_nil,or_false]at c2;rcases c2 with e|e|e /-RC-/ |e|e|e|e|e|e|e|e
   ·have p:decide (([116,114,117,101]:Str)=[116,114,117,101])=true/\decide (([116,114,117,101]:Str)=[102,97,108,115,101])=false/\decide (([116,114,117,101]:Str)=[115,116,101,97,100,121])=false/\decide (([116,114,117,101]:Str)=[112,104,97,115,101])=false/\decide (([116,114,117,101]:Str)=[114,117,108,101])=false/\decide (([116,114,117,101]:Str)=[110,111,116])=false/\decide (([116,114,117,101]:Str)=[102,111,114])=false/\decide (([116,114,117,101]:Str)=[119,105,116,104,105,110])=false/\decide (([116,114,117,101]:Str)=[99,111,117,110,116])=false/\decide (([116,114,117,101]:Str)=[114,105,115,101,115])=false/\decide (([116,114,117,101]:Str)=[115,105,110,99,101])=false:=by decide
    rw [e];simp only [p,decide_true,zI,zH,zA];refine dS (l (by rw [c];decide)) (Nat.le_refl _) (λu z A l1 b=>?_) (λf y e=>dE e);rw [eG (b.xr.trans xr.symm)];exact aF b l1 ⟨rfl,mW ⟨by decide,by decide⟩ (by unfold okS;simp) (by unfold okS;simp) ⟨by decide,by decide⟩ ⟨by decide,by decide⟩ ⟨by decide,by decide⟩⟩
   ·have p:decide (([102,97,108,115,101]:Str)=[116,114,117,101])=false/\decide (([102,97,108,115,101]:Str)=[102,97,108,115,101])=true/\decide (([102,97,108,115,101]:Str)=[115,116,101,97,100,121])=false/\decide (([102,97,108,115,101]:Str)=[112,104,97,115,101])=false/\decide (([102,97,108,115,101]:Str)=[114,117,108,101])=false/\decide (([102,97,108,115,101]:Str)=[110,111,116])=false/\decide (([102,97,108,115,101]:Str)=[102,111,114])=false/\decide (([102,97,108,115,101]:Str)=[119,105,116,104,105,110])=false/\decide (([102,97,108,115,101]:Str)=[99,111,117,110,116])=false/\decide (([102,97,108,115,101]:Str)=[114,105,115,101,115])=false/\decide (([102,97,108,115,101]:Str)=[115,105,110,99,101])=false:=by decide
    rw [e];simp only [p,decide_true,zI,zH,zA];refine dS (l (by rw [c];decide)) (Nat.le_refl _) (λu z A l1 b=>?_) (λf y e=>dE e);rw [eG (b.xr.trans xr.symm)];exact aF b l1 ⟨rfl,mW ⟨by decide,by decide⟩ (by unfold okS;simp) (by unfold okS;simp) ⟨by decide,by decide⟩ ⟨by decide,by decide⟩ ⟨by decide,by decide⟩⟩
   ·have p:decide (([115,116,101,97,100,121]:Str)=[116,114,117,101])=false/\decide (([115,116,101,97,100,121]:Str)=[102,97,108,115,101])=false/\decide (([115,116,101,97,100,121]:Str)=[115,116,101,97,100,121])=true/\decide (([115,116,101,97,100,121]:Str)=[112,104,97,115,101])=false/\decide (([115,116,101,97,100,121]:Str)=[114,117,108,101])=false/\decide (([115,116,101,97,100,121]:Str)=[110,111,116])=false/\decide (([115,116,101,97,100,121]:Str)=[102,111,114])=false/\decide (([115,116,101,97,100,121]:Str)=[119,105,116,104,105,110])=false/\decide (([115,116,101,97,100,121]:Str)=[99,111,117,110,116])=false/\decide (([115,116,101,97,100,121]:Str)=[114,105,115,101,115])=false/\decide (([115,116,101,97,100,121]:Str)=[115,105,110,99,101])=false:=by decide
    rw [e];simp only [p,decide_true,zI,zH,zA];refine dS (l (by rw [c];decide)) (Nat.le_refl _) (λu z A l1 b=>?_) (λf y e=>eF (cZ hL e (by decide)) λw y e=>eF (cZ hL e (by decide)) λw y e=>eF (cZ hL e (by decide)) λw y e=>dE e);rw [eG (b.xr.trans xr.symm)];refine dK (uK hs hL b) (Nat.le_of_lt l1) (λv2 H E F G d l2 g=>?_) (λf w y e=>?_)
    ·dsimp only;rw [eG (g.xr.trans xr.symm)];refine dK (pR hs hL g) (Nat.le_of_lt l2) (λv3 w3 R S T B C q=>?_) (λf w y e=>?_)
     ·dsimp only;rw [eG (q.xr.trans xr.symm)];refine dK (pR hs hL q) (Nat.le_of_lt C) (λv4 w4 x4 y4 k4 N l4 X=>?_) (λf w y e=>?_)
      ·dsimp only;rw [eG (X.xr.trans xr.symm)];exact aF X l4 ⟨by rw [d.1,B.1,N.1],mW ⟨by decide,by decide⟩ (by rw [d.1];exact d.2) (by unfold okS;simp) ⟨by decide,by decide⟩ (by rw [B.1];exact B.2) (by rw [N.1];exact N.2)⟩
      ·dsimp only;exact dE e
     ·dsimp only;exact eF (cZ hL e (by decide)) λw y e=>dE e
    ·dsimp only;exact eF (cZ hL e (by decide)) λw y e=>eF (cZ hL e (by decide)) λw y e=>dE e
   ·have p:decide (([112,104,97,115,101]:Str)=[116,114,117,101])=false/\decide (([112,104,97,115,101]:Str)=[102,97,108,115,101])=false/\decide (([112,104,97,115,101]:Str)=[115,116,101,97,100,121])=false/\decide (([112,104,97,115,101]:Str)=[112,104,97,115,101])=true/\decide (([112,104,97,115,101]:Str)=[114,117,108,101])=false/\decide (([112,104,97,115,101]:Str)=[110,111,116])=false/\decide (([112,104,97,115,101]:Str)=[102,111,114])=false/\decide (([112,104,97,115,101]:Str)=[119,105,116,104,105,110])=false/\decide (([112,104,97,115,101]:Str)=[99,111,117,110,116])=false/\decide (([112,104,97,115,101]:Str)=[114,105,115,101,115])=false/\decide (([112,104,97,115,101]:Str)=[115,105,110,99,101])=false:=by decide
    rw [e];simp only [p,decide_true,zI,zH,zA];refine dS (l (by rw [c];decide)) (Nat.le_refl _) (λu z A l1 b=>?_) (λf y e=>eF (cZ hL e (by decide)) λw y e=>dE e);rw [eG (b.xr.trans xr.symm)];refine dK (uK hs hL b) (Nat.le_of_lt l1) (λv2 H E F G d l2 g=>?_) (λf w y e=>?_)
    ·dsimp only;rw [eG (g.xr.trans xr.symm)];exact aF g l2 ⟨by rw [d.1],mW ⟨by decide,by decide⟩ (by rw [d.1];exact d.2) (by unfold okS;simp) ⟨by decide,by decide⟩ ⟨by decide,by decide⟩ ⟨by decide,by decide⟩⟩
    ·dsimp only;exact dE e
   ·have p:decide (([114,117,108,101]:Str)=[116,114,117,101])=false/\decide (([114,117,108,101]:Str)=[102,97,108,115,101])=false/\decide (([114,117,108,101]:Str)=[115,116,101,97,100,121])=false/\decide (([114,117,108,101]:Str)=[112,104,97,115,101])=false/\decide (([114,117,108,101]:Str)=[114,117,108,101])=true/\decide (([114,117,108,101]:Str)=[110,111,116])=false/\decide (([114,117,108,101]:Str)=[102,111,114])=false/\decide (([114,117,108,101]:Str)=[119,105,116,104,105,110])=false/\decide (([114,117,108,101]:Str)=[99,111,117,110,116])=false/\decide (([114,117,108,101]:Str)=[114,105,115,101,115])=false/\decide (([114,117,108,101]:Str)=[115,105,110,99,101])=false:=by decide
    rw [e];simp only [p,decide_true,zI,zH,zA];refine dS (l (by rw [c];decide)) (Nat.le_refl _) (λu z A l1 b=>?_) (λf y e=>eF (cZ hL e (by decide)) λw y e=>dE e);rw [eG (b.xr.trans xr.symm)];refine dK (uK hs hL b) (Nat.le_of_lt l1) (λv2 H E F G d l2 g=>?_) (λf w y e=>?_)
    ·dsimp only;rw [eG (g.xr.trans xr.symm)];exact aF g l2 ⟨by rw [d.1],mW ⟨by decide,by decide⟩ (by rw [d.1];exact d.2) (by unfold okS;simp) ⟨by decide,by decide⟩ ⟨by decide,by decide⟩ ⟨by decide,by decide⟩⟩
    ·dsimp only;exact dE e
   ·have p:decide (([110,111,116]:Str)=[116,114,117,101])=false/\decide (([110,111,116]:Str)=[102,97,108,115,101])=false/\decide (([110,111,116]:Str)=[115,116,101,97,100,121])=false/\decide (([110,111,116]:Str)=[112,104,97,115,101])=false/\decide (([110,111,116]:Str)=[114,117,108,101])=false/\decide (([110,111,116]:Str)=[110,111,116])=true/\decide (([110,111,116]:Str)=[102,111,114])=false/\decide (([110,111,116]:Str)=[119,105,116,104,105,110])=false/\decide (([110,111,116]:Str)=[99,111,117,110,116])=false/\decide (([110,111,116]:Str)=[114,105,115,101,115])=false/\decide (([110,111,116]:Str)=[115,105,110,99,101])=false:=by decide
    rw [e];simp only [p,decide_true,zI,zH,zA];refine dS (l (by rw [c];decide)) (Nat.le_refl _) (λu z A l1 b=>?_) (λf y e=>eF (jU r e) λw y e=>dE e);rw [eG (b.xr.trans xr.symm)];refine dK (aHj (by omega) D b) (Nat.le_of_lt l1) (λv2 H E F G d l2 g=>?_) (λf w y e=>?_)
    ·dsimp only;rw [eG (g.xr.trans xr.symm)];exact aF g l2 ⟨by rw [d.1],vF ⟨by decide,by decide⟩ ⟨by decide,by decide⟩ ⟨by decide,by decide⟩ ⟨by decide,by decide⟩ d.2⟩
    ·dsimp only;exact dE e
   ·have p:decide (([102,111,114]:Str)=[116,114,117,101])=false/\decide (([102,111,114]:Str)=[102,97,108,115,101])=false/\decide (([102,111,114]:Str)=[115,116,101,97,100,121])=false/\decide (([102,111,114]:Str)=[112,104,97,115,101])=false/\decide (([102,111,114]:Str)=[114,117,108,101])=false/\decide (([102,111,114]:Str)=[110,111,116])=false/\decide (([102,111,114]:Str)=[102,111,114])=true/\decide (([102,111,114]:Str)=[119,105,116,104,105,110])=false/\decide (([102,111,114]:Str)=[99,111,117,110,116])=false/\decide (([102,111,114]:Str)=[114,105,115,101,115])=false/\decide (([102,111,114]:Str)=[115,105,110,99,101])=false:=by decide
    rw [e];simp only [p,decide_true,zI,zH,zA];refine dS (l (by rw [c];decide)) (Nat.le_refl _) (λu z A l1 b=>?_) (λf y e=>eF (cZ hL e (by decide)) λw y e=>eF (jU r e) λw y e=>dE e);rw [eG (b.xr.trans xr.symm)];refine dK (pR hs hL b) (Nat.le_of_lt l1) (λv2 H E F G d l2 g=>?_) (λf w y e=>?_)
    ·dsimp only;rw [eG (g.xr.trans xr.symm)];refine dK (aHj (by omega) D g) (Nat.le_of_lt l2) (λv3 w3 R S T B C q=>?_) (λf w y e=>?_)
     ·dsimp only;rw [eG (q.xr.trans xr.symm)];exact aF q C ⟨by rw [d.1,B.1],vF ⟨by decide,by decide⟩ ⟨by decide,by decide⟩ ⟨by decide,by decide⟩ (by rw [d.1];exact d.2) B.2⟩
     ·dsimp only;exact dE e
    ·dsimp only;exact eF (jU r e) λw y e=>dE e
   ·have p:decide (([119,105,116,104,105,110]:Str)=[116,114,117,101])=false/\decide (([119,105,116,104,105,110]:Str)=[102,97,108,115,101])=false/\decide (([119,105,116,104,105,110]:Str)=[115,116,101,97,100,121])=false/\decide (([119,105,116,104,105,110]:Str)=[112,104,97,115,101])=false/\decide (([119,105,116,104,105,110]:Str)=[114,117,108,101])=false/\decide (([119,105,116,104,105,110]:Str)=[110,111,116])=false/\decide (([119,105,116,104,105,110]:Str)=[102,111,114])=false/\decide (([119,105,116,104,105,110]:Str)=[119,105,116,104,105,110])=true/\decide (([119,105,116,104,105,110]:Str)=[99,111,117,110,116])=false/\decide (([119,105,116,104,105,110]:Str)=[114,105,115,101,115])=false/\decide (([119,105,116,104,105,110]:Str)=[115,105,110,99,101])=false:=by decide
    rw [e];simp only [p,decide_true,zI,zH,zA];refine dS (l (by rw [c];decide)) (Nat.le_refl _) (λu z A l1 b=>?_) (λf y e=>eF (cZ hL e (by decide)) λw y e=>eF (jU r e) λw y e=>dE e);rw [eG (b.xr.trans xr.symm)];refine dK (pR hs hL b) (Nat.le_of_lt l1) (λv2 H E F G d l2 g=>?_) (λf w y e=>?_)
    ·dsimp only;rw [eG (g.xr.trans xr.symm)];refine dK (aHj (by omega) D g) (Nat.le_of_lt l2) (λv3 w3 R S T B C q=>?_) (λf w y e=>?_)
     ·dsimp only;rw [eG (q.xr.trans xr.symm)];exact aF q C ⟨by rw [d.1,B.1],vF ⟨by decide,by decide⟩ ⟨by decide,by decide⟩ ⟨by decide,by decide⟩ (by rw [d.1];exact d.2) B.2⟩
     ·dsimp only;exact dE e
    ·dsimp only;exact eF (jU r e) λw y e=>dE e
   ·have p:decide (([99,111,117,110,116]:Str)=[116,114,117,101])=false/\decide (([99,111,117,110,116]:Str)=[102,97,108,115,101])=false/\decide (([99,111,117,110,116]:Str)=[115,116,101,97,100,121])=false/\decide (([99,111,117,110,116]:Str)=[112,104,97,115,101])=false/\decide (([99,111,117,110,116]:Str)=[114,117,108,101])=false/\decide (([99,111,117,110,116]:Str)=[110,111,116])=false/\decide (([99,111,117,110,116]:Str)=[102,111,114])=false/\decide (([99,111,117,110,116]:Str)=[119,105,116,104,105,110])=false/\decide (([99,111,117,110,116]:Str)=[99,111,117,110,116])=true/\decide (([99,111,117,110,116]:Str)=[114,105,115,101,115])=false/\decide (([99,111,117,110,116]:Str)=[115,105,110,99,101])=false:=by decide
    rw [e];simp only [p,decide_true,zI,zH,zA];refine dS (l (by rw [c];decide)) (Nat.le_refl _) (λu z A l1 b=>?_) (λf y e=>eF (cZ hL e (by decide)) λw y e=>vG (mD hL e _) λy e=>eF (cZ hL e (by decide)) λw y e=>eF (jU r e) λw y e=>dE e);rw [eG (b.xr.trans xr.symm)];refine dK (pR hs hL b) (Nat.le_of_lt l1) (λv2 H E F G d l2 g=>?_) (λf w y e=>?_)
    ·dsimp only;rw [eG (g.xr.trans xr.symm)];refine dS (aFk hs hL g [111,102] (Or.inl (by decide))) (Nat.le_of_lt l2) (λR S T C q=>?_) (λf y e=>?_)
     ·rw [eG (q.xr.trans xr.symm)];refine dK (pR hs hL q) (Nat.le_of_lt C) (λv4 w4 x4 y4 k4 N l4 X=>?_) (λf w y e=>?_)
      ·dsimp only;rw [eG (X.xr.trans xr.symm)];refine dK (aHj (by omega) D X) (Nat.le_of_lt l4) (λv5 _ _ _ _ q5 l5 r5=>?_) (λf w y e=>?_)
       ·dsimp only;rw [eG (r5.xr.trans xr.symm)];exact aF r5 l5 ⟨by rw [d.1,N.1,q5.1],vF ⟨by decide,by decide⟩ ⟨by decide,by decide⟩ (by rw [d.1];exact d.2) (by rw [N.1];exact N.2) q5.2⟩
       ·dsimp only;exact dE e
      ·dsimp only;exact eF (jU r e) λw y e=>dE e
     ·exact eF (cZ hL e (by decide)) λw y e=>eF (jU r e) λw y e=>dE e
    ·dsimp only;exact vG (mD hL e _) λy e=>eF (cZ hL e (by decide)) λw y e=>eF (jU r e) λw y e=>dE e
   ·have p:decide (([114,105,115,101,115]:Str)=[116,114,117,101])=false/\decide (([114,105,115,101,115]:Str)=[102,97,108,115,101])=false/\decide (([114,105,115,101,115]:Str)=[115,116,101,97,100,121])=false/\decide (([114,105,115,101,115]:Str)=[112,104,97,115,101])=false/\decide (([114,105,115,101,115]:Str)=[114,117,108,101])=false/\decide (([114,105,115,101,115]:Str)=[110,111,116])=false/\decide (([114,105,115,101,115]:Str)=[102,111,114])=false/\decide (([114,105,115,101,115]:Str)=[119,105,116,104,105,110])=false/\decide (([114,105,115,101,115]:Str)=[99,111,117,110,116])=false/\decide (([114,105,115,101,115]:Str)=[114,105,115,101,115])=true/\decide (([114,105,115,101,115]:Str)=[115,105,110,99,101])=false:=by decide
    rw [e];simp only [p,decide_true,zI,zH,zA];refine dS (l (by rw [c];decide)) (Nat.le_refl _) (λu z A l1 b=>?_) (λf y e=>eF (jU r e) λw y e=>dE e);rw [eG (b.xr.trans xr.symm)];refine dK (aHj (by omega) D b) (Nat.le_of_lt l1) (λv2 H E F G d l2 g=>?_) (λf w y e=>?_)
    ·dsimp only;rw [eG (g.xr.trans xr.symm)];exact aF g l2 ⟨by rw [d.1],vF ⟨by decide,by decide⟩ ⟨by decide,by decide⟩ ⟨by decide,by decide⟩ ⟨by decide,by decide⟩ d.2⟩
    ·dsimp only;exact dE e
   ·have p:decide (([115,105,110,99,101]:Str)=[116,114,117,101])=false/\decide (([115,105,110,99,101]:Str)=[102,97,108,115,101])=false/\decide (([115,105,110,99,101]:Str)=[115,116,101,97,100,121])=false/\decide (([115,105,110,99,101]:Str)=[112,104,97,115,101])=false/\decide (([115,105,110,99,101]:Str)=[114,117,108,101])=false/\decide (([115,105,110,99,101]:Str)=[110,111,116])=false/\decide (([115,105,110,99,101]:Str)=[102,111,114])=false/\decide (([115,105,110,99,101]:Str)=[119,105,116,104,105,110])=false/\decide (([115,105,110,99,101]:Str)=[99,111,117,110,116])=false/\decide (([115,105,110,99,101]:Str)=[114,105,115,101,115])=false/\decide (([115,105,110,99,101]:Str)=[115,105,110,99,101])=true:=by decide
    rw [e];simp only [p,decide_true,zI,zH,zA];refine dS (l (by rw [c];decide)) (Nat.le_refl _) (λu z A l1 b=>?_) (λf y e=>eF (jU r e) λw y e=>eF (jU r e) λw y e=>dE e);rw [eG (b.xr.trans xr.symm)];rw [kids2 (by omega) (by omega),thr_as,show(60-((j+1:Nat):Int))+1=60-(j:Int)by omega];refine dK (D _ _ _ b) (Nat.le_of_lt l1) (λv2 H E F G d l2 g=>?_) (λf w y e=>?_)
    ·dsimp only;rw [thr_as,eG (g.xr.trans b.xr.symm)];refine dK (D _ _ _ g) (Nat.le_of_lt l2) (λv3 w3 R S T B C q=>?_) (λf w y e=>?_)
     ·dsimp only;rw [zA,jV];dsimp only;rw [eG (q.xr.trans xr.symm)];exact aF q C ⟨by rw [d.1,B.1],aBj ⟨by decide,by decide⟩ ⟨by decide,by decide⟩ ⟨by decide,by decide⟩ ⟨by decide,by decide⟩ (by simp) (λc hc=>by rcases List.mem_cons.1 hc with o|o;exact o▸d.2;rw [mS.1 o];exact B.2)⟩
     ·dsimp only;exact dE e
    ·dsimp only;exact eF (jU r e) λw y e=>dE e
end
abbrev PF:=gB->Int->Option (Except gQ (Cond×gB))
abbrev RF:=Rf->Int->Option (Cond×Rf)
abbrev PS:=(List Cond)×Str×Int×Int×Int×Int×Str
abbrev RSt:=(List Tk)×Int×Int×Int×(List Cond)
def lbP (g:PF)(r:Rules)(w:Str)(n:Int)(out:PS->Option (Except gQ (Cond×gB)))(k:PS->Option (Except gQ (Cond×gB)))(A:PS):Option (Except gQ (Cond×gB)):=
 match A with
 |⟨o,c,d,e,h,j,l⟩=>
  gI (Fai (some (gB.mk c d (gK.mk e h j l) (Rules.mk r.Phases r.Moves r.Rules))) w) λp=>
  gV p
  (gI (Fab (gB.mk c d (gK.mk e h j l) (Rules.mk r.Phases r.Moves r.Rules))) λq=>
  thr q λm=>
  gI (g (gB.mk m.text m.at_ m.now (Rules.mk r.Phases r.Moves r.Rules)) n) λu=>
  thr u λ⟨v,b⟩=>
  gI (app' 88 o ([v]:List Cond)) λz=>
  k (z,b.text,b.at_,b.now.kind,b.now.at_,b.now.n,b.now.text))
  (out (o,c,d,e,h,j,l))
def loP (p2:Int)(r:Rules):PS->Option (Except gQ (Cond×gB)):=λ⟨b,c,d,e,g,h,j⟩=>
 gV (decide ((b.length:Int)=1))
 (gI (at' b 0) λl=>
 some (.ok (l,gB.mk c d (gK.mk e g h j) (Rules.mk r.Phases r.Moves r.Rules))))
 (some (.ok (Cond.mk p2 [] [] 0 0 0 b,gB.mk c d (gK.mk e g h j) (Rules.mk r.Phases r.Moves r.Rules))))
def lsP (g:PF)(c:gB)(w:Str)(p2 n:Int):Option (Except gQ (Cond×gB)):=
 gI (g c n) λd=>
 thr d λ⟨e,b⟩=>
 fG (lbP g c.r w n (loP p2 c.r)) (([e]:List Cond),b.text,b.at_,b.now.kind,b.now.at_,b.now.n,b.now.text)
theorem ls_and (b:PF)(c:gB)(w:Str)(p2 n:Int):Fdw b c w p2 n=lsP (Fcr b) c w p2 n:=by
 unfold Fdw Ff5 lsP lbP loP;simp only [zS,yU]
theorem ls_or (b:PF)(c:gB)(w:Str)(p2 n:Int):Fdi b c w p2 n=lsP (Fb7 b) c w p2 n:=by
 unfold Fdi Ff2 lsP lbP loP;simp only [zS,yU]
def lbR (h:RF)(w:Str)(m:Int)(k:RSt->Option RSt)(u:RSt):Option RSt:=
 match u with
 |⟨g,j,n,c,o⟩=>
  gI (gV (decide (c=0))
  (gI (Fac (gG.mk g j n c) w) λp=>
  some p)
  (some false)) λq=>
  gV q
  (gI (Fad (gG.mk g j n c)) λd=>
  gI (h (gG.mk d.l d.at_ d.pos d.e) m) λb=>
  gI (app' 88 o ([b.1]:List Cond)) λr=>
  k (b.2.l,b.2.at_,b.2.pos,b.2.e,r))
  (some (g,j,n,c,o))
def loR (p2:Int):RSt->Option (Cond×Rf):=λ⟨b,c,d,e,g⟩=>some (Cond.mk p2 [] [] 0 0 0 g,gG.mk b c d e)
def lsR (h:RF)(w:Str)(p2:Int)(d:Rf)(m:Int):Option (Cond×Rf):=
 gI (h (gG.mk d.l d.at_ d.pos d.e) m) λ⟨c,b⟩=>
 gI (gV (decide (b.e≠0))
 (some true)
 (gI (Fac (gG.mk b.l b.at_ b.pos b.e) w) λg=>
 some (!g))) λj=>
 gV j
 (some (c,gG.mk b.l b.at_ b.pos b.e))
 (gI (fG (lbR h w m) (b.l,b.at_,b.pos,b.e,([c]:List Cond))) (loR p2))
theorem lr_and (b:RF)(c:Rf)(m:Int):Fa4 b c m=lsR (Fbf b) [97,110,100] 9 c m:=rfl
theorem lr_or (b:RF)(c:Rf)(m:Int):Fbp b c m=lsR (Fa4 b) [111,114] 10 c m:=rfl
theorem yQ {α β γ:Type}(a:Option α)(f:α->Option β)(g:β->Option γ):gI (gI a f) g=gI a λv=>gI (f v) g:=by cases a<;>rfl
section
variable {s:Str}{r0:Rules}{L:List Tk} (hs:s.length<=1000000) (hL:L.length<=2000000)
include hs hL
theorem l_step {g:PF}{h:RF}{m:Nat} (G:wV s r0 L g h m) (H:EC L h m) {w:Str} (I:w∈kws) {p2:Int}{x:gB}{y:Rf}{k:Nat} (J:Rk s r0 L x y k)
  {acc:List Cond} (z:acc.length<=10000000) {KP:PS->Option (Except gQ (Cond×gB))}{KR:RSt->Option RSt}{out:PS->Option (Except gQ (Cond×gB))}{b:Bool}
  (B:Fac y w=some b) (A:b=true)
  (p: ∀c o j C,okC c->C<k->Rk s r0 L o j C->Sim s r0 L Vc (KP (acc++[c],o.text,o.at_,o.now.kind,o.now.at_,o.now.n,o.now.text)) (gI (KR (j.l,j.at_,j.pos,j.e,acc++[c])) (loR p2)) k)
  (u: ∀f c j,Er L j f->EG L (gI (KR (j.l,j.at_,j.pos,j.e,acc++[c])) (loR p2)) f):
  Sim s r0 L Vc (lbP g x.r w (60-(m:Int)) out KP (acc,x.text,x.at_,x.now.kind,x.now.at_,x.now.n,x.now.text)) (gI (lbR h w (m:Int) KR (y.l,y.at_,y.pos,y.e,acc)) (loR p2)) k:=by
 subst A;obtain⟨i,a,t,rest,q,rfl⟩:=J;obtain⟨b,K,M,N,-⟩:=rW q w (Or.inl I);have A:b=true:=oI (M.symm.trans B);subst A;have O:t.kind≠0:=by have:=(N rfl).1;omega
 unfold lbP lbR;dsimp only;rw [mk_x,K,zA,zI,yX,B,zA,dT q.ye,zI,zA,zI,yQ];refine dS (aFr hs hL q O) (Nat.le_refl _) (λP D Q l1 E=>?_) (λf D e=>?_)
 ·rw [fix_n (E.xr.trans q.xr.symm),yX,yQ];refine dK (G P D Q E) (Nat.le_of_lt l1) (λc d R v S F l2 T=>?_) (λf d v e=>?_)
  ·dsimp only;rw [F.1,apc (by decide) z,zA,zA];exact p d R v S F.2 l2 T
  ·dsimp only;rw [apc (by decide) z,zA];exact u f d v e
 ·rw [yX,yQ];refine eF (jU H e) λd v e=>?_
  dsimp only;rw [apc (by decide) z,zA];exact u f d v e
omit hs hL in
theorem l_bad {h:RF}{m:Int}{w:Str}{p2:Int}{y:Rf}{f:gQ} (e:Er L y f) (acc:List Cond) (n:Nat):EG L (gI (eU (lbR h w m) (n+1) (y.l,y.at_,y.pos,y.e,acc)) (loR p2)) f:=by
 show EG L (gI (lbR h w m (eU (lbR h w m) n) (y.l,y.at_,y.pos,y.e,acc)) (loR p2)) f;unfold lbR;dsimp only;rcases e with ⟨i,q⟩|⟨i,t,q⟩
 ·rw [qD q.e0,zH,zA,zH,zA];exact⟨_,y,rfl,Or.inl ⟨i,q⟩⟩
 ·rw [dT q.ye,zI,yX,b_is q,zA,zA,zH,zA];exact⟨_,y,rfl,Or.inr ⟨i,t,q⟩⟩
theorem l_loop {g:PF}{h:RF}{m:Nat} (F:wV s r0 L g h m) (G:EC L h m) {w:Str} (B:w∈kws) {p2:Int} (H:i64 p2): ∀k x y,Rk s r0 L x y k-> ∀acc:List Cond,2<=acc.length->acc.length+k<=9000000->(∀c∈acc,okC c)-> ∀p o,k<p->k<o->
  Sim s r0 L Vc (eU (lbP g r0 w (60-(m:Int)) (loP p2 r0)) p (acc,x.text,x.at_,x.now.kind,x.now.at_,x.now.n,x.now.text)) (gI (eU (lbR h w (m:Int)) o (y.l,y.at_,y.pos,y.e,acc)) (loR p2)) (k+1):=by
 intro k
 induction k using Nat.strongRecOn with
 |ind k I=>
  intro x y v acc _ _ C p o _ _;obtain⟨p,rfl⟩: ∃j,p=j+1:=⟨p-1,by omega⟩;obtain⟨o,rfl⟩: ∃j,o=j+1:=⟨o-1,by omega⟩;have A:=v;obtain⟨i,a,t,rest,q,rfl⟩:=A;obtain⟨b,M,D,N,-⟩:=rW q w (Or.inl B)
  cases b with
  |true=>
   have X:1<=rest.length:=by
    rcases q.c with ⟨e,-,-⟩|⟨-,e⟩
    ·have:=(N rfl).1;rw [e]at this;exact absurd this (by show¬((0:Int)=1\/(0:Int)=5);decide)
    ·rw [e];exact rX s a
   have u:=l_step hs hL F G B (p2:=p2) v (acc:=acc) (by omega) (KP:=eU (lbP g r0 w (60-(m:Int)) (loP p2 r0)) p) (KR:=eU (lbR h w (m:Int)) o) (out:=loP p2 r0) D rfl
    (λc O E P Q l r=>(I P l O E r (acc++[c]) (by rw [List.length_append];omega) (by rw [List.length_append,List.length_singleton];omega) (λd R=>by rcases mA.1 R with z|z;exact C d z;rw [mS.1 z];exact Q) p o (by omega) (by omega)).mono (by omega))
    (λf c E e=>by
     obtain⟨o,rfl⟩: ∃j,o=j+1:=⟨o-1,by omega⟩;exact l_bad e _ o)
   rw [q.xr]at u;exact u.mono (by omega)
  |false=>
   show Sim s r0 L Vc (lbP g r0 w (60-(m:Int)) (loP p2 r0) _ (acc,x.text,x.at_,x.now.kind,x.now.at_,x.now.n,x.now.text)) (gI (lbR h w (m:Int) _ (y.l,y.at_,y.pos,y.e,acc)) (loR p2)) (rest.length+1);unfold lbP lbR loP;dsimp only;rw [eG q.xr,M,zA,zH,yX,D,zA,dT q.ye,zI,zA,zH,zA,qD (by omega),zH];exact aF v (Nat.lt_succ_self _) ⟨rfl,aBj H ⟨by decide,by decide⟩ ⟨by decide,by decide⟩ ⟨by decide,by decide⟩ (by omega) C⟩
omit hs hL in
theorem l_bad0 {h:RF}{m:Int}{w:Str}{p2:Int}{y:Rf}{f:gQ} (e:Er L y f) (c:Cond):EG L (gI (gV (decide (y.e≠0)) (some true) (gI (Fac y w) λb=>some (!b))) λd=>gV d (some (c,y)) (gI (fG (lbR h w m) (y.l,y.at_,y.pos,y.e,([c]:List Cond))) (loR p2))) f:=by
 rcases e with ⟨i,q⟩|⟨i,t,q⟩
 ·rw [dT q.e0,zI,zA,zI];exact⟨_,y,rfl,Or.inl ⟨i,q⟩⟩
 ·rw [qD (λz=>z q.ye),zH,b_is q,zA,zA,Bool.not_false,zI];exact⟨_,y,rfl,Or.inr ⟨i,t,q⟩⟩
theorem l_sim {g:PF}{h:RF}{m:Nat} (u:wV s r0 L g h m) (E:EC L h m) {w:Str} (v:w∈kws) {p2:Int} (J:i64 p2) {x:gB}{y:Rf}{k:Nat} (F:Rk s r0 L x y k):
  Sim s r0 L Vc (lsP g x w p2 (60-(m:Int))) (lsR h w p2 y (m:Int)) k:=by
 obtain⟨j,K,_⟩: ∃j,FU=j+1/\3000000<j:=⟨18446744073709551615,by unfold FU;rfl,by decide⟩;unfold lsP lsR;rw [yX];refine dK (u x y k F) (Nat.le_refl _) (λc d o M _ A l1 B=>?_) (λf d M e=>?_)
 ·dsimp only;have C:=B;obtain⟨i,a,t,rest,q,rfl⟩:=C;obtain⟨b,N,G,_,-⟩:=rW q w (Or.inl v);have X:rest.length<=2000000:=by
   have:=congrArg List.length q.d;rw [List.length_drop,List.length_cons]at this;omega
  rw [A.1,yX,G,zA,qD (λz=>z q.ye),zH,zA,F.xr];unfold fG;rw [K]
  cases b with
  |false=>
   rw [Bool.not_false,zI];show Sim s r0 L Vc (lbP g r0 w (60-(m:Int)) (loP p2 r0) _ ([d],o.text,o.at_,o.now.kind,o.now.at_,o.now.n,o.now.text)) _ k;unfold lbP loP;dsimp only;rw [eG q.xr,N,zA,zH,dT (by rfl),zI,show at' [d] 0=some d from rfl,zA];exact aF B l1 ⟨rfl,A.2⟩
  |true=>
   rw [Bool.not_true,zH];have p:=l_step hs hL u E v (p2:=p2) B (acc:=[d]) (by show 1<=10000000;decide) (KP:=eU (lbP g r0 w (60-(m:Int)) (loP p2 r0)) j) (KR:=eU (lbR h w (m:Int)) j) (out:=loP p2 r0) G rfl
    (λc O H I P _ r=>(l_loop hs hL u E v J I O H r ([d]++[c]) (by show 2<=2;decide) (by show 2+I<=9000000;omega) (λe Q=>by rcases mA.1 Q with z|z;rw [mS.1 z];exact A.2;rw [mS.1 z];exact P) j j (by omega) (by omega)).mono (by omega))
    (λf c H e=>by
     obtain⟨D,rfl⟩: ∃D,j=D+1:=⟨j-1,by omega⟩;exact l_bad e _ D)
   rw [q.xr]at p;exact p.mono (by omega)
 ·dsimp only;rw [yX];exact l_bad0 e d
omit hs hL in
theorem aIy {A:Option (Except gQ (Cond×gB))}{B:Option (Cond×Rf)}{k:Nat}{r:Rules} (h:Sim s r0 L Vc A B k) (xr:r=r0):
  Sim s r0 L Vc (gI A λz=>thr z λv=>some (.ok (v.1,gB.mk v.2.text v.2.at_ (gK.mk v.2.now.kind v.2.now.at_ v.2.now.n v.2.now.text) (Rules.mk r.Phases r.Moves r.Rules)))) B k:=by
 rcases h with ⟨v,w,d,b,g,rfl,e,j,c,l⟩|⟨f,w,b,rfl,e,q⟩
 ·rw [zA,jV];refine Or.inl ⟨v,w,d,b,g,?_,e,j,c,l⟩;dsimp only;rw [eG (c.xr.trans xr.symm)]
 ·exact Or.inr ⟨f,w,b,by rw [zA,kC],e,q⟩
theorem partR_sim {d:PF}{c:RF}: ∀m:Nat,m<=60->(∀j,j<m->wV s r0 L d c j)->(∀j,j<m->EC L c j)-> ∀e g,m<e->m<g->wV s r0 L (Fb6 d e) (Fbo c g) m:=by
 intro m
 induction m using Nat.strongRecOn with
 |ind m o=>
  intro p l h e g _ _;obtain⟨a,rfl⟩: ∃k,e=k+1:=⟨e-1,by omega⟩;obtain⟨b,rfl⟩: ∃k,g=k+1:=⟨g-1,by omega⟩;exact part_sim hs hL p l (λj n=>o j n (by omega) (λi hi=>l i (by omega)) (λi hi=>h i (by omega)) a b (by omega) (by omega)) h
   (λj n=>aEr hL j (by omega) (λi hi=>h i (by omega)) b (by omega))
theorem cond_simR: ∀m:Nat,m<=60-> ∀d g,m<d->m<g->wV s r0 L (Fav d) (Fal g) m:=by
 intro m
 induction m using Nat.strongRecOn with
 |ind m p=>
  intro h d g _ _;obtain⟨a,rfl⟩: ∃k,d=k+1:=⟨d-1,by omega⟩;obtain⟨b,rfl⟩: ∃k,g=k+1:=⟨g-1,by omega⟩;have q: ∀j,j<m->wV s r0 L (Fav a) (Fal b) j:=λj o=>p j o (by omega) a b (by omega) (by omega)
  have n: ∀j,j<m->EC L (Fal b) j:=λj o=>aKk hL j (by omega) b (by omega)
  have r:=aEr hL m h n FU (jL (by omega));have u:=e_both hL h n;have P:wV s r0 L (Fcr (Fav a)) (Fbf (Fal b)) m:=λx y k c=>aIy (partR_sim hs hL m h q n FU FU (jL (by omega)) (jL (by omega)) x y k c) c.xr
  have Q:wV s r0 L (Fb7 (Fav a)) (Fa4 (Fal b)) m:=λx y k c=>by
   have z:=l_sim hs hL P r (w:=[97,110,100]) (by decide) (p2:=9) ⟨by decide,by decide⟩ c;rw [<-ls_and,<-lr_and]at z;exact aIy z c.xr
  intro x y k c;have z:=l_sim hs hL Q u (w:=[111,114]) (by decide) (p2:=10) ⟨by decide,by decide⟩ c;rw [<-ls_or,<-lr_or]at z;show Sim s r0 L Vc (Fc2 (Fav a) x (60-(m:Int))) (Fa7 (Fal b) y (m:Int)) k;unfold Fa7;rw [yX];have e: ∀B:Option (Cond×Rf),(gI B λv=>some (v.1,gG.mk v.2.l v.2.at_ v.2.pos v.2.e))=B:=λB=>by cases B<;>rfl
  rw [show(gI (Fbp (Fal b) y (m:Int)) λv=>match v with |(x13,x14)=>some (x13,gG.mk x14.l x14.at_ x14.pos x14.e))=_ from e _];exact aIy z c.xr
theorem cond_s {x:gB}{y:Rf}{k:Nat}(b:Rk s r0 L x y k):Sim s r0 L Vc (Fbj x 0) (Fa9 y 60) k:=
 cond_simR hs hL 60 (by omega) FU FU (jL (by omega)) (jL (by omega)) x y k b
omit hs in
theorem uI {y:Rf}{f:gQ}(h:Er L y f):EG L (Fa9 y 60) f:=jU (aKk hL 60 (by omega) FU (jL (by omega))) h
end
mutual
def nmC:Cond->Prop
 |⟨_,b,c,_,_,_,d⟩=>(b.length<=30/\c.length<=30)/\nmCs d
def nmCs:List Cond->Prop
 | []=>True
 |c::l=>nmC c/\nmCs l
end
theorem nmC_eq (c:Cond):nmC c↔(c.Name.length<=30/\c.Other.length<=30)/\nmCs c.Kids:=by cases c;rfl
theorem aBd: ∀(l:List Cond),nmCs l↔ ∀c∈l,nmC c
 | []=>by simp [nmCs]
 |c::l=>by rw [nmCs,aBd l];simp
theorem gt_nmC: ∀(n:Nat) (c:Cond),dN c<=n->Gt c->nmC c
 |0,c,h,_=>by have:=sD c;omega
 |n+1,c,h,g=>by
  refine(nmC_eq c).2 ⟨⟨g.self.nm,g.self.ot⟩,(aBd _).2 λx b=>?_⟩;obtain⟨_,d⟩:=List.getElem?_of_mem b;have:=(sZ g.ok d).2.1;exact gt_nmC n x (by omega) (g.kid b)
theorem aHk: ∀(l:List Cond) (x:Cond),cNs (l++[x])=cNs l+cN x
 | [],x=>by simp [cNs]
 |c::l,x=>by rw [List.cons_append,cNs,cNs,aHk l x];omega
theorem aAz: ∀(n:Nat) (c:Cond) (p:gJ) (b:Nat),dN c<=n->nmC c->cN c<=1000->p.out.length<=b->b+258*cN c<=1000000000000->Gr (Fbu n p c) (b+258*cN c)
 |0,c,_,_,h,_,_,_,_=>by have:=sD c;omega
 |n+1,c,p,b,h,u,_,v,_=>by
  have w:=aAa c;have J:=vY c.Kids;have K:=aGe c;obtain⟨⟨_,_⟩,d⟩:=(nmC_eq c).1 u;have d:=(aBd _).1 d;show Gr (Fby (Fbu n) p c) _;unfold Fby;simp only [zS];have z:=ink_Ints p [c.Kind,c.Op,c.N,c.Frames,(c.Kids.length:Int)] v (by simp;omega);refine z.bind λA B=>?_
  simp only [List.length_cons,List.length_nil]at B;have C:=wX A [c.Name,c.Other] (b:=b+132) (by intro s hs;simp only [List.mem_cons,List.not_mem_nil,or_false]at hs;rcases hs with rfl|rfl<;>assumption) (by omega) (by simp;omega);refine C.bind λ_ D=>?_
  simp only [List.length_cons,List.length_nil]at D;unfold Fd4;refine qF (λ(i:Nat) (s:List Int)=>((i:Int),s)) c.Kids (λi s=>s.length<=b+258+258*cNs (c.Kids.take i)) (λ(r:gJ)=>r.out.length<=b+258*cN c) (by omega) ?_ ?_ _ (by simp [cNs];omega)
  ·intro E i s x g hi m;have o:=mG g;have m1:=aAk o;have m2:=aFh o;have e:=aHk (c.Kids.take i) x;rw [<-take_snoc g]at e;have m3:cNs (c.Kids.take (i+1))<=cNs c.Kids:=by
    have q: ∀(l:List Cond) (j:Nat),cNs (l.take j)<=cNs l:=by
     intro l
     induction l with
     |nil=>intro j;simp [cNs]
     |cons a l F=>intro j;cases j with
      |zero=>simp [cNs]
      |succ j=>rw [List.take_succ_cons,cNs,cNs];have:=F j;omega
    exact q _ _
   obtain⟨r,G,_⟩:=aAz n x (gJ.mk s) (b+258+258*cNs (c.Kids.take i)) (by omega) (d x o) (by omega) m (by omega);refine⟨r.out,by omega,?_⟩;simp only [zS];rw [xJ hi,zI,bD g,zA,G,zA,dM hi (by omega)]
  ·intro E s m;simp only [zS];rw [xI,zH];rw [List.take_length]at m;exact⟨_,rfl,by simp only;omega⟩
def Bd (c:Cond):Prop:=dN c<=20/\cN c<=200/\nmC c
theorem Gt.bd {c:Cond}(g:Gt c):Bd c:=⟨g.d,g.n,gt_nmC 20 c g.d g⟩
theorem aFv {c:Cond}(h:Bd c)(p:gJ)(b:Nat)(d:p.out.length<=b)(g:b<=1000000000):Gr (Fdb p c) (b+60000):=by
 obtain⟨q,e,_⟩:=aAz FU c p b (Nat.le_of_lt (tZ (by have:=h.1;omega))) h.2.2 (by have:=h.2.1;omega) d (by have:=h.2.1;omega);exact⟨q,e,by have:=h.2.1;omega⟩
structure Br (r:Rules):Prop where
 p:r.Phases.length<=100
 m:r.Moves.length<=200
 l:r.Rules.length<=200
 pn: ∀x∈r.Phases,x.length<=30
 mg: ∀x∈r.Moves,Bd x.When/\x.From.length<=30/\x.To.length<=30
 lg: ∀x∈r.Rules,Bd x.When/\x.Name.length<=30
theorem Gr'.br {r:Rules}(g:Gr' r):Br r:=by
 have c:=g.p;have d:=g.m;have e:=g.l;exact⟨by omega,by omega,by omega,g.pn,λx b=>⟨(g.mg x b).1.bd,(g.mg x b).2⟩,λx b=>⟨(g.lg x b).1.bd,(g.lg x b).2⟩⟩
theorem aIs:Br ⟨[],[],[]⟩:=⟨by decide,by decide,by decide,(λ_ h=>nomatch h),(λ_ h=>nomatch h),(λ_ h=>nomatch h)⟩
theorem mulC {C:Nat}(b:C=60200){i:Nat}(hi:i<=200):i*C<=12040000:=by
 subst b;exact Nat.mul_le_mul_right 60200 hi
theorem ink_Rules {r:Rules} (g:Br r) (p:gJ) (o:p.out.length<=0):Gr (Fdp p r) 30000000:=by
 have F:=g.p;have q:=g.m;have v:=g.l;obtain⟨C,h⟩: ∃C,C=60200:=⟨_,rfl⟩;unfold Fdp;simp only [zS];refine(wX p r.Phases g.pn o (by omega)).bind λw A=>?_
 refine(nN w _ A (by omega)).bind λp2 _=>?_
 have D: ∃s,Fd9 r (0,p2.out)=some s/\s.length<=10000+r.Moves.length*C:=by
  unfold Fd9;refine qF (λ(i:Nat) (s:List Int)=>((i:Int),s)) r.Moves (λi s=>s.length<=10000+i*C) (λ(s:List Int)=>s.length<=10000+r.Moves.length*C) (by omega) ?_ ?_ _ (by omega)
  ·intro j i s x e hi c;have m1:=mulC h (i:=i) (by omega);have m2:(i+1)*C=i*C+C:=Nat.succ_mul i C;obtain⟨B,E⟩: ∃B,B=10000+i*C:=⟨_,rfl⟩;have c:s.length<=B:=by omega
   have d:=g.mg x (mG e);obtain⟨t,t1,t2⟩:=wX (gJ.mk s) [x.From,x.To] (b:=B) (by intro s hs;simp only [List.mem_cons,List.not_mem_nil,or_false]at hs;rcases hs with rfl|rfl;exact d.2.1;exact d.2.2) c (by simp;omega);simp only [List.length_cons,List.length_nil]at t2;obtain⟨u,n,u2⟩:=(aFv d.1 t (B+126) (by omega) (by omega)).get;have z:u.out.length<=10000+(i+1)*C:=by omega
   refine⟨u.out,z,?_⟩;simp only [zS];rw [xJ hi,zI,bD e,zA,zA,t1,zA,zA,n,zA,dM hi (by omega)]
  ·intro j s c;simp only [zS];rw [xI,zH];exact⟨_,rfl,c⟩
 obtain⟨s,s1,s2⟩:=D;have H:=mulC h q;rw [s1,zA];refine(nN (gJ.mk s) _ (b:=10000+r.Moves.length*C) s2 (by omega)).bind λ_ _=>?_
 unfold Ffq;refine qF (λ(i:Nat) (s:List Int)=>((i:Int),s)) r.Rules (λi s=>s.length<=15000000+i*C) (λ(s:gJ)=>s.out.length<=30000000) (by omega) ?_ ?_ _ (by omega)
 ·intro j i s x e hi c;have m1:=mulC h (i:=i) (by omega);have m2:(i+1)*C=i*C+C:=Nat.succ_mul i C;obtain⟨B,E⟩: ∃B,B=15000000+i*C:=⟨_,rfl⟩;have c:s.length<=B:=by omega
  have d:=g.lg x (mG e);have K:=d.2;obtain⟨t,t1,t2⟩:=aGb (gJ.mk s) x.Name (b:=B) c (by omega);obtain⟨u,n,u2⟩:=(aFv d.1 t (B+52) (by omega) (by omega)).get;have z:u.out.length<=15000000+(i+1)*C:=by omega
  refine⟨u.out,z,?_⟩;simp only [zS];rw [xJ hi,zI,bD e,zA,t1,zA,zA,n,zA,dM hi (by omega)]
 ·intro j s c;have m1:=mulC h (i:=r.Rules.length) v;simp only [zS];rw [xI,zH];exact⟨_,rfl,(by omega:s.length<=30000000)⟩
theorem told_ex {r:Rules}(g:Br r)(n e:Int): ∃t,Fco r n e=some t:=by
 unfold Fco;obtain⟨q,b,c⟩:=ink_Rules g (gJ.mk []) (by simp);obtain⟨d,h,j⟩:=nN q n c (by omega);obtain⟨_,l,_⟩:=nN d e j (by omega);rw [b,zA,h,zA];unfold Fet Ffa;rw [l];exact⟨_,rfl⟩
def sG (A:Option (Except gQ gB))(B:Option (Rules×Int×Int)):Prop:=
 (∃x,A=some (.ok x)/\okR x.r/\B=gI (Fbh x.r) λe=>gV (decide (e≠0)) (some (Rules.mk [] [] [],0,e)) (some (x.r,0,0)))\/
 (∃f,A=some (.error f)/\f.e≠0/\B=some (Rules.mk [] [] [],f.at_,f.e))
def EF (B:Option (Rules×Int×Int))(f:gQ):Prop:=f.e≠0->B=some (Rules.mk [] [] [],f.at_,f.e)
section
variable {s:Str}{r0:Rules}{L:List Tk}{α β:Type}{k:Nat}
theorem Er.ne {y:Rf}{f:gQ}(h:Er L y f):f.e≠0:=by
 rcases h with ⟨i,h⟩|⟨i,t,h⟩
 ·exact h.n
 ·rw [h.fe];decide
theorem pU {V:α->β->Prop}{A:Option (Except gQ (α×gB))}{B:Option (β×Rf)}{F:α×gB->Option (Except gQ gB)}{G:β×Rf->Option (Rules×Int×Int)}{j:Nat}
  (h:Sim s r0 L V A B j) (le:j<=k) (g: ∀v w c b d,V v w->d<k->Rk s r0 L c b d->sG (F (v,c)) (G (w,b))) (e: ∀f w b,Er L b f->EF (G (w,b)) f):
  sG (gI A λz=>thr z F) (gI B G):=by
 rcases h with ⟨v,w,c,b,d,rfl,rfl,l,m,_⟩|⟨f,w,b,rfl,rfl,q⟩
 ·rw [zA,zA,jV];exact g v w c b d l (by omega) m
 ·rw [zA,zA,kC];exact Or.inr ⟨f,rfl,q.ne,e f w b q q.ne⟩
theorem pK {A:Option (Except gQ gB)}{B:Option Rf}{F:gB->Option (Except gQ gB)}{G:Rf->Option (Rules×Int×Int)}{j:Nat}
  (h:Sim0 s r0 L A B j) (le:j<=k) (g: ∀c b d,d<k->Rk s r0 L c b d->sG (F c) (G b)) (e: ∀f b,Er L b f->EF (G b) f):
  sG (gI A λz=>thr z F) (gI B G):=by
 rcases h with ⟨c,b,d,rfl,rfl,l,_⟩|⟨f,b,rfl,rfl,q⟩
 ·rw [zA,zA,jV];exact g c b d (by omega) l
 ·rw [zA,zA,kC];exact Or.inr ⟨f,rfl,q.ne,e f b q q.ne⟩
theorem kJ {B:Option (β×Rf)}{G:β×Rf->Option (Rules×Int×Int)}{f:gQ}(h:EG L B f)(g: ∀w b,Er L b f->EF (G (w,b)) f):EF (gI B G) f:=by
 obtain⟨w,b,rfl,e⟩:=h;rw [zA];exact g w b e
theorem sF {B:Option Rf}{G:Rf->Option (Rules×Int×Int)}{f:gQ}(h:EG0 L B f)(g: ∀b,Er L b f->EF (G b) f):EF (gI B G) f:=by
 obtain⟨b,rfl,e⟩:=h;rw [zA];exact g b e
theorem Rk.setR {x:gB}{y:Rf}(h:Rk s r0 L x y k)(b:Rules):Rk s b L (gB.mk x.text x.at_ (gK.mk x.now.kind x.now.at_ x.now.n x.now.text) b) y k:=by
 obtain⟨i,a,t,rest,q,e⟩:=h;exact⟨i,a,t,rest,⟨q.text,rfl,q.ye,q.yl,q.yi,q.d,q.now,q.k6,q.xa,q.al,q.c⟩,e⟩
theorem vC {x:gB}{a:List Str}{b:List fQ}{c:List dJ}(h:x.r=Rules.mk a b c):gB.mk x.text x.at_ (gK.mk x.now.kind x.now.at_ x.now.n x.now.text) (Rules.mk a b c)=x:=by rw [<-h]
end
def b1P (c2:List fQ)(c3:List dJ)(out:((List Str)×Str×Int×Int×Int×Int×Str)->Option (Except gQ gB))(k:Str×Int×Int×Int×Int×Str×(List Str)->Option (Except gQ gB))(e:Str×Int×Int×Int×Int×Str×(List Str)):Option (Except gQ gB):=
 match e with
 |⟨g1,g2,g3,g4,g5,g6,acc⟩=>
  gI (Fai (some (gB.mk g1 g2 (gK.mk g3 g4 g5 g6) (Rules.mk acc c2 c3))) [112,104,97,115,101]) λb=>
  gV b
  (gI (Fab (gB.mk g1 g2 (gK.mk g3 g4 g5 g6) (Rules.mk acc c2 c3))) λz=>thr z λc=>
  gI (Faf (gB.mk c.text c.at_ (gK.mk c.now.kind c.now.at_ c.now.n c.now.text) (Rules.mk acc c2 c3))) λz=>thr z λ⟨v2,d⟩=>
  gI (app' 16 acc ([v2]:List Str)) λl=>k (d.text,d.at_,d.now.kind,d.now.at_,d.now.n,d.now.text,l))
  (out (acc,g1,g2,g3,g4,g5,g6))
def b1R (k:(List Tk)×Int×Int×Int×(List Str)->Option ((List Tk)×Int×Int×Int×(List Str)))(d:(List Tk)×Int×Int×Int×(List Str)):Option ((List Tk)×Int×Int×Int×(List Str)):=
 match d with
 |⟨g1,g2,g3,g4,acc⟩=>
  gI (gV (decide (g4=0)) (gI (Fac (gG.mk g1 g2 g3 g4) [112,104,97,115,101]) λb=>some b) (some false)) λb=>
  gV b
  (gI (Fad (gG.mk g1 g2 g3 g4)) λc=>
  gI (Faa (gG.mk c.l c.at_ c.pos c.e) 2) λv=>
  gI (app' 16 acc ([v.1.text]:List Str)) λl=>k (v.2.l,v.2.at_,v.2.pos,v.2.e,l))
  (some (g1,g2,g3,g4,acc))
theorem L1P (b:gB)(out:((List Str)×Str×Int×Int×Int×Int×Str)->Option (Except gQ gB)):Fc5 b out=fG (b1P b.r.Moves b.r.Rules out):=by
 unfold Fc5 b1P;simp only [zS]
theorem L1R:Fcf=fG b1R:=by
 unfold Fcf b1R;simp only [zS]
theorem aHp {L:List Tk}{y:Rf}{f:gQ} (e:Er L y f) (acc:List Str) {fin:(List Tk)×Int×Int×Int×(List Str)->Option (Rules×Int×Int)} (b:EF (fin (y.l,y.at_,y.pos,y.e,acc)) f) (n:Nat):EF (gI (eU b1R (n+1) (y.l,y.at_,y.pos,y.e,acc)) fin) f:=by
 show EF (gI (b1R (eU b1R n) (y.l,y.at_,y.pos,y.e,acc)) fin) f;unfold b1R;dsimp only;rcases e with ⟨i,q⟩|⟨i,t,q⟩
 ·rw [qD q.e0,zH,zA,zH,zA];exact b
 ·rw [dT q.ye,zI,yX,b_is q,zA,zA,zH,zA];exact b
section
variable {s:Str}{L:List Tk} (hs:s.length<=1000000) (hL:L.length<=2000000)
include hs hL
theorem b1_loop (c2:List fQ) (c3:List dJ) {out:((List Str)×Str×Int×Int×Int×Int×Str)->Option (Except gQ gB)}{fin:(List Tk)×Int×Int×Int×(List Str)->Option (Rules×Int×Int)}
  (d: ∀x y k (acc:List Str),Rk s (Rules.mk acc c2 c3) L x y k->acc.length+k<=9000000->(∀c∈acc,okS c)->sG (out (acc,x.text,x.at_,x.now.kind,x.now.at_,x.now.n,x.now.text)) (fin (y.l,y.at_,y.pos,y.e,acc)))
  (o: ∀y f (acc:List Str),Er L y f->EF (fin (y.l,y.at_,y.pos,y.e,acc)) f):
  ∀k r x y,Rk s r L x y k-> ∀acc:List Str,acc.length+k<=9000000->(∀c∈acc,okS c)-> ∀m g,k<m->k<g->
  sG (eU (b1P c2 c3 out) m (x.text,x.at_,x.now.kind,x.now.at_,x.now.n,x.now.text,acc)) (gI (eU b1R g (y.l,y.at_,y.pos,y.e,acc)) fin):=by
 intro k
 induction k using Nat.strongRecOn with
 |ind k E=>
  intro r h y p acc u A m g _ _;obtain⟨m,rfl⟩: ∃j,m=j+1:=⟨m-1,by omega⟩;obtain⟨g,rfl⟩: ∃j,g=j+1:=⟨g-1,by omega⟩;have v:=p.setR (Rules.mk acc c2 c3);show sG (b1P c2 c3 out (eU (b1P c2 c3 out) m) (h.text,h.at_,h.now.kind,h.now.at_,h.now.n,h.now.text,acc)) (gI (b1R (eU b1R g) (y.l,y.at_,y.pos,y.e,acc)) fin);have d:=d _ y k acc v u A;unfold b1P b1R;dsimp only at d⊢;generalize hx:gB.mk h.text h.at_ (gK.mk h.now.kind h.now.at_ h.now.n h.now.text) (Rules.mk acc c2 c3)=x at v⊢;obtain⟨i,a,t,rest,q,rfl⟩:=v;obtain⟨b,H,I,B,-⟩:=rW q [112,104,97,115,101] (Or.inl (by decide));rw [H,zA,yX,I,zA,dT q.ye,zI,zA]
  cases b with
  |false=>rw [zH,zH,zA];exact d
  |true=>
   have O:1<=rest.length:=by
    rcases q.c with ⟨e,-,-⟩|⟨-,e⟩
    ·have:=(B rfl).1;rw [e]at this;exact absurd this (by show¬((0:Int)=1\/(0:Int)=5);decide)
    ·rw [e];exact rX s a
   obtain⟨g,rfl⟩: ∃j,g=j+1:=⟨g-1,by omega⟩;rw [zI,zI,yQ];refine pK (aFr hs hL q (by have:=(B rfl).1;omega)) (Nat.le_refl _) (λ_ _ _ l1 C=>?_) (λf y e=>by rw [yX,yQ];refine kJ (cZ hL e (by decide)) λw y e=>?_;dsimp only;rw [apc (by decide) (by omega),zA];exact aHp e _ (o y f _ e) g);rw [vC C.xr,yX,yQ];refine pU (uK hs hL C) (Nat.le_of_lt l1) (λv2 _ J K M D l2 N=>?_) (λf w y e=>by dsimp only;rw [apc (by decide) (by omega),zA];exact aHp e _ (o y f _ e) g);dsimp only;rw [D.1,apc (by decide) (by omega),zA,zA];exact E M l2 _ J K N _ (by rw [List.length_append,List.length_singleton];omega) (λc u=>by rcases mA.1 u with z|z;exact A c z;rw [mS.1 z];exact D.2) m (g+1) (by omega) (by omega)
end
def b2P (c:List Str)(c3:List dJ)(out:((List fQ)×Str×Int×Int×Int×Int×Str)->Option (Except gQ gB))(k:(List fQ)×Str×Int×Int×Int×Int×Str->Option (Except gQ gB))(m:(List fQ)×Str×Int×Int×Int×Int×Str):Option (Except gQ gB):=
 match m with
 |⟨acc,g1,g2,g3,g4,g5,g6⟩=>
  gI (Fai (some (gB.mk g1 g2 (gK.mk g3 g4 g5 g6) (Rules.mk c acc c3))) [109,111,118,101]) λb=>
  gV b
  (gI (Fab (gB.mk g1 g2 (gK.mk g3 g4 g5 g6) (Rules.mk c acc c3))) λz=>thr z λd=>
  gI (Faf (gB.mk d.text d.at_ (gK.mk d.now.kind d.now.at_ d.now.n d.now.text) (Rules.mk c acc c3))) λz=>thr z λ⟨v2,e⟩=>
  gI (Faf (gB.mk e.text e.at_ (gK.mk e.now.kind e.now.at_ e.now.n e.now.text) (Rules.mk c acc c3))) λz=>thr z λ⟨v3,g⟩=>
  gI (Fas (gB.mk g.text g.at_ (gK.mk g.now.kind g.now.at_ g.now.n g.now.text) (Rules.mk c acc c3)) [105,102]) λz=>thr z λh=>
  gI (Fbj (gB.mk h.text h.at_ (gK.mk h.now.kind h.now.at_ h.now.n h.now.text) (Rules.mk c acc c3)) 0) λz=>thr z λ⟨v5,j⟩=>
  gI (app' 120 acc ([fQ.mk v2 v3 v5]:List fQ)) λl=>k (l,j.text,j.at_,j.now.kind,j.now.at_,j.now.n,j.now.text))
  (out (acc,g1,g2,g3,g4,g5,g6))
def b2R (k:(List Tk)×Int×Int×Int×(List fQ)->Option ((List Tk)×Int×Int×Int×(List fQ)))(m:(List Tk)×Int×Int×Int×(List fQ)):Option ((List Tk)×Int×Int×Int×(List fQ)):=
 match m with
 |⟨g1,g2,g3,g4,acc⟩=>
  gI (gV (decide (g4=0)) (gI (Fac (gG.mk g1 g2 g3 g4) [109,111,118,101]) λb=>some b) (some false)) λb=>
  gV b
  (gI (Fad (gG.mk g1 g2 g3 g4)) λc=>
  gI (Faa (gG.mk c.l c.at_ c.pos c.e) 2) λ⟨n,d⟩=>
  gI (Faa (gG.mk d.l d.at_ d.pos d.e) 2) λ⟨o,g⟩=>
  gI (Faj (gG.mk g.l g.at_ g.pos g.e) [105,102]) λh=>
  gI (Fa9 (gG.mk h.l h.at_ h.pos h.e) 60) λ⟨p,j⟩=>
  gI (app' 120 acc ([fQ.mk n.text o.text p]:List fQ)) λl=>k (j.l,j.at_,j.pos,j.e,l))
  (some (g1,g2,g3,g4,acc))
theorem L2P (c:gB)(b:List Str)(out:((List fQ)×Str×Int×Int×Int×Int×Str)->Option (Except gQ gB)):Fdo c b out=fG (b2P b c.r.Rules out):=by
 unfold Fdo b2P;simp only [zS]
theorem L2R:Fdv=fG b2R:=by
 unfold Fdv b2R;simp only [zS]
theorem wY {L:List Tk}{y:Rf}{f:gQ} (e:Er L y f) (acc:List fQ) {fin:(List Tk)×Int×Int×Int×(List fQ)->Option (Rules×Int×Int)} (b:EF (fin (y.l,y.at_,y.pos,y.e,acc)) f) (n:Nat):EF (gI (eU b2R (n+1) (y.l,y.at_,y.pos,y.e,acc)) fin) f:=by
 show EF (gI (b2R (eU b2R n) (y.l,y.at_,y.pos,y.e,acc)) fin) f;unfold b2R;dsimp only;rcases e with ⟨i,q⟩|⟨i,t,q⟩
 ·rw [qD q.e0,zH,zA,zH,zA];exact b
 ·rw [dT q.ye,zI,yX,b_is q,zA,zA,zH,zA];exact b
section
variable {s:Str}{L:List Tk} (hs:s.length<=1000000) (hL:L.length<=2000000)
include hs hL
theorem b2_loop (p:List Str) (c3:List dJ) {out:((List fQ)×Str×Int×Int×Int×Int×Str)->Option (Except gQ gB)}{fin:(List Tk)×Int×Int×Int×(List fQ)->Option (Rules×Int×Int)}
  (g: ∀x y k (acc:List fQ),Rk s (Rules.mk p acc c3) L x y k->acc.length+k<=9000000->(∀c∈acc,(okS c.From/\okS c.To/\okC c.When))->sG (out (acc,x.text,x.at_,x.now.kind,x.now.at_,x.now.n,x.now.text)) (fin (y.l,y.at_,y.pos,y.e,acc)))
  (m: ∀y f (acc:List fQ),Er L y f->EF (fin (y.l,y.at_,y.pos,y.e,acc)) f):
  ∀k r x y,Rk s r L x y k-> ∀acc:List fQ,acc.length+k<=9000000->(∀c∈acc,(okS c.From/\okS c.To/\okC c.When))-> ∀o d,k<o->k<d->
  sG (eU (b2P p c3 out) o (acc,x.text,x.at_,x.now.kind,x.now.at_,x.now.n,x.now.text)) (gI (eU b2R d (y.l,y.at_,y.pos,y.e,acc)) fin):=by
 intro k
 induction k using Nat.strongRecOn with
 |ind k K=>
  intro r h y u acc v B o d _ _;obtain⟨o,rfl⟩: ∃j,o=j+1:=⟨o-1,by omega⟩;obtain⟨d,rfl⟩: ∃j,d=j+1:=⟨d-1,by omega⟩;have A:=u.setR (Rules.mk p acc c3);show sG (b2P p c3 out (eU (b2P p c3 out) o) (acc,h.text,h.at_,h.now.kind,h.now.at_,h.now.n,h.now.text)) (gI (b2R (eU b2R d) (y.l,y.at_,y.pos,y.e,acc)) fin);have g:=g _ y k acc A v B;unfold b2P b2R;dsimp only at g⊢;generalize hx:gB.mk h.text h.at_ (gK.mk h.now.kind h.now.at_ h.now.n h.now.text) (Rules.mk p acc c3)=x at A⊢;obtain⟨i,a,t,rest,q,rfl⟩:=A;obtain⟨b,O,P,C,-⟩:=rW q [109,111,118,101] (Or.inl (by decide));rw [O,zA,yX,P,zA,dT q.ye,zI,zA]
  cases b with
  |false=>rw [zH,zH,zA];exact g
  |true=>
   have kp:1<=rest.length:=by
    rcases q.c with ⟨e,-,-⟩|⟨-,e⟩
    ·have:=(C rfl).1;rw [e]at this;exact absurd this (by show¬((0:Int)=1\/(0:Int)=5);decide)
    ·rw [e];exact rX s a
   obtain⟨d,rfl⟩: ∃j,d=j+1:=⟨d-1,by omega⟩;rw [zI,zI,yQ];refine pK (aFr hs hL q (by have:=(C rfl).1;omega)) (Nat.le_refl _) (λ_ _ _ l1 D=>?_) (λf y e=>by rw [yX,yQ];refine kJ (cZ hL e (by decide)) λw y e=>?_;dsimp only;rw [yX,yQ];refine kJ (cZ hL e (by decide)) λw y e=>?_;dsimp only;rw [yX,yQ];refine sF (mD hL e _) λy e=>?_;rw [yX,yQ];refine kJ (uI hL e) λw y e=>?_;dsimp only;rw [apc (by decide) (by omega),zA];exact wY e _ (m y f _ e) d);rw [vC D.xr,yX,yQ];refine pU (uK hs hL D) (Nat.le_of_lt l1) (λv2 _ _ _ _ E l2 F=>?_) (λf w y e=>by dsimp only;rw [yX,yQ];refine kJ (cZ hL e (by decide)) λw y e=>?_;dsimp only;rw [yX,yQ];refine sF (mD hL e _) λy e=>?_;rw [yX,yQ];refine kJ (uI hL e) λw y e=>?_;dsimp only;rw [apc (by decide) (by omega),zA];exact wY e _ (m y f _ e) d);dsimp only;rw [vC F.xr,yX,yQ];refine pU (uK hs hL F) (Nat.le_of_lt l2) (λv3 _ _ _ _ G Q H=>?_) (λf w y e=>by dsimp only;rw [yX,yQ];refine sF (mD hL e _) λy e=>?_;rw [yX,yQ];refine kJ (uI hL e) λw y e=>?_;dsimp only;rw [apc (by decide) (by omega),zA];exact wY e _ (m y f _ e) d);dsimp only;rw [vC H.xr,yX,yQ];refine pK (aFk hs hL H [105,102] (Or.inl (by decide))) (Nat.le_of_lt Q) (λ_ _ _ R I=>?_) (λf y e=>by rw [yX,yQ];refine kJ (uI hL e) λw y e=>?_;dsimp only;rw [apc (by decide) (by omega),zA];exact wY e _ (m y f _ e) d)
   rw [vC I.xr,yX,yQ];refine pU (cond_s hs hL I) (Nat.le_of_lt R) (λv5 _ S T X J Y r5=>?_) (λf w y e=>by dsimp only;rw [apc (by decide) (by omega),zA];exact wY e _ (m y f _ e) d);dsimp only;rw [E.1,G.1,J.1,apc (by decide) (by omega),zA,zA];exact K X Y _ S T r5 _ (by rw [List.length_append,List.length_singleton];omega) (λc v=>by rcases mA.1 v with z|z;exact B c z;rw [mS.1 z];exact⟨E.2,G.2,J.2⟩) o (d+1) (by omega) (by omega)
end
def b3P (h:List Str)(c2:List fQ)(out:((List dJ)×Str×Int×Int×Int×Int×Str)->Option (Except gQ gB))(k:(List dJ)×Str×Int×Int×Int×Int×Str->Option (Except gQ gB))(j:(List dJ)×Str×Int×Int×Int×Int×Str):Option (Except gQ gB):=
 match j with
 |⟨acc,g1,g2,g3,g4,g5,g6⟩=>
  gI (Fai (some (gB.mk g1 g2 (gK.mk g3 g4 g5 g6) (Rules.mk h c2 acc))) [114,117,108,101]) λb=>
  gV b
  (gI (Fab (gB.mk g1 g2 (gK.mk g3 g4 g5 g6) (Rules.mk h c2 acc))) λz=>thr z λc=>
  gI (Faf (gB.mk c.text c.at_ (gK.mk c.now.kind c.now.at_ c.now.n c.now.text) (Rules.mk h c2 acc))) λz=>thr z λ⟨v2,d⟩=>
  gI (Fas (gB.mk d.text d.at_ (gK.mk d.now.kind d.now.at_ d.now.n d.now.text) (Rules.mk h c2 acc)) [105,102]) λz=>thr z λe=>
  gI (Fbj (gB.mk e.text e.at_ (gK.mk e.now.kind e.now.at_ e.now.n e.now.text) (Rules.mk h c2 acc)) 0) λz=>thr z λ⟨v4,g⟩=>
  gI (app' 104 acc ([dJ.mk v2 v4]:List dJ)) λl=>k (l,g.text,g.at_,g.now.kind,g.now.at_,g.now.n,g.now.text))
  (out (acc,g1,g2,g3,g4,g5,g6))
def b3R (k:(List Tk)×Int×Int×Int×(List dJ)->Option ((List Tk)×Int×Int×Int×(List dJ)))(j:(List Tk)×Int×Int×Int×(List dJ)):Option ((List Tk)×Int×Int×Int×(List dJ)):=
 match j with
 |⟨g1,g2,g3,g4,acc⟩=>
  gI (gV (decide (g4=0)) (gI (Fac (gG.mk g1 g2 g3 g4) [114,117,108,101]) λb=>some b) (some false)) λb=>
  gV b
  (gI (Fad (gG.mk g1 g2 g3 g4)) λc=>
  gI (Faa (gG.mk c.l c.at_ c.pos c.e) 2) λ⟨m,d⟩=>
  gI (Faj (gG.mk d.l d.at_ d.pos d.e) [105,102]) λg=>
  gI (Fa9 (gG.mk g.l g.at_ g.pos g.e) 60) λ⟨n,h⟩=>
  gI (app' 104 acc ([dJ.mk m.text n]:List dJ)) λl=>k (h.l,h.at_,h.pos,h.e,l))
  (some (g1,g2,g3,g4,acc))
theorem L3P (b:List Str)(c:List fQ)(out:((List dJ)×Str×Int×Int×Int×Int×Str)->Option (Except gQ gB)):Fde b c out=fG (b3P b c out):=by
 unfold Fde b3P;simp only [zS]
theorem L3R:Fcu=fG b3R:=by
 unfold Fcu b3R;simp only [zS]
theorem aBo {L:List Tk}{y:Rf}{f:gQ} (e:Er L y f) (acc:List dJ) {fin:(List Tk)×Int×Int×Int×(List dJ)->Option (Rules×Int×Int)} (b:EF (fin (y.l,y.at_,y.pos,y.e,acc)) f) (n:Nat):EF (gI (eU b3R (n+1) (y.l,y.at_,y.pos,y.e,acc)) fin) f:=by
 show EF (gI (b3R (eU b3R n) (y.l,y.at_,y.pos,y.e,acc)) fin) f;unfold b3R;dsimp only;rcases e with ⟨i,q⟩|⟨i,t,q⟩
 ·rw [qD q.e0,zH,zA,zH,zA];exact b
 ·rw [dT q.ye,zI,yX,b_is q,zA,zA,zH,zA];exact b
section
variable {s:Str}{L:List Tk} (hs:s.length<=1000000) (hL:L.length<=2000000)
include hs hL
theorem b3_loop (p:List Str) (c2:List fQ) {out:((List dJ)×Str×Int×Int×Int×Int×Str)->Option (Except gQ gB)}{fin:(List Tk)×Int×Int×Int×(List dJ)->Option (Rules×Int×Int)}
  (g: ∀x y k (acc:List dJ),Rk s (Rules.mk p c2 acc) L x y k->acc.length+k<=9000000->(∀c∈acc,(okS c.Name/\okC c.When))->sG (out (acc,x.text,x.at_,x.now.kind,x.now.at_,x.now.n,x.now.text)) (fin (y.l,y.at_,y.pos,y.e,acc)))
  (m: ∀y f (acc:List dJ),Er L y f->EF (fin (y.l,y.at_,y.pos,y.e,acc)) f):
  ∀k r x y,Rk s r L x y k-> ∀acc:List dJ,acc.length+k<=9000000->(∀c∈acc,(okS c.Name/\okC c.When))-> ∀o d,k<o->k<d->
  sG (eU (b3P p c2 out) o (acc,x.text,x.at_,x.now.kind,x.now.at_,x.now.n,x.now.text)) (gI (eU b3R d (y.l,y.at_,y.pos,y.e,acc)) fin):=by
 intro k
 induction k using Nat.strongRecOn with
 |ind k I=>
  intro r h y u acc v B o d _ _;obtain⟨o,rfl⟩: ∃j,o=j+1:=⟨o-1,by omega⟩;obtain⟨d,rfl⟩: ∃j,d=j+1:=⟨d-1,by omega⟩;have A:=u.setR (Rules.mk p c2 acc);show sG (b3P p c2 out (eU (b3P p c2 out) o) (acc,h.text,h.at_,h.now.kind,h.now.at_,h.now.n,h.now.text)) (gI (b3R (eU b3R d) (y.l,y.at_,y.pos,y.e,acc)) fin);have g:=g _ y k acc A v B;unfold b3P b3R;dsimp only at g⊢;generalize hx:gB.mk h.text h.at_ (gK.mk h.now.kind h.now.at_ h.now.n h.now.text) (Rules.mk p c2 acc)=x at A⊢;obtain⟨i,a,t,rest,q,rfl⟩:=A;obtain⟨b,M,N,C,-⟩:=rW q [114,117,108,101] (Or.inl (by decide));rw [M,zA,yX,N,zA,dT q.ye,zI,zA]
  cases b with
  |false=>rw [zH,zH,zA];exact g
  |true=>
   have X:1<=rest.length:=by
    rcases q.c with ⟨e,-,-⟩|⟨-,e⟩
    ·have:=(C rfl).1;rw [e]at this;exact absurd this (by show¬((0:Int)=1\/(0:Int)=5);decide)
    ·rw [e];exact rX s a
   obtain⟨d,rfl⟩: ∃j,d=j+1:=⟨d-1,by omega⟩;rw [zI,zI,yQ];refine pK (aFr hs hL q (by have:=(C rfl).1;omega)) (Nat.le_refl _) (λ_ _ _ l1 D=>?_) (λf y e=>by rw [yX,yQ];refine kJ (cZ hL e (by decide)) λw y e=>?_;dsimp only;rw [yX,yQ];refine sF (mD hL e _) λy e=>?_;rw [yX,yQ];refine kJ (uI hL e) λw y e=>?_;dsimp only;rw [apc (by decide) (by omega),zA];exact aBo e _ (m y f _ e) d);rw [vC D.xr,yX,yQ];refine pU (uK hs hL D) (Nat.le_of_lt l1) (λv2 _ _ _ _ E l2 F=>?_) (λf w y e=>by dsimp only;rw [yX,yQ];refine sF (mD hL e _) λy e=>?_;rw [yX,yQ];refine kJ (uI hL e) λw y e=>?_;dsimp only;rw [apc (by decide) (by omega),zA];exact aBo e _ (m y f _ e) d);dsimp only;rw [vC F.xr,yX,yQ];refine pK (aFk hs hL F [105,102] (Or.inl (by decide))) (Nat.le_of_lt l2) (λ_ _ _ O G=>?_) (λf y e=>by rw [yX,yQ];refine kJ (uI hL e) λw y e=>?_;dsimp only;rw [apc (by decide) (by omega),zA];exact aBo e _ (m y f _ e) d);rw [vC G.xr,yX,yQ];refine pU (cond_s hs hL G) (Nat.le_of_lt O) (λv4 _ P Q R H S T=>?_) (λf w y e=>by dsimp only;rw [apc (by decide) (by omega),zA];exact aBo e _ (m y f _ e) d);dsimp only;rw [E.1,H.1,apc (by decide) (by omega),zA,zA];exact I R S _ P Q T _ (by rw [List.length_append,List.length_singleton];omega) (λc v=>by rcases mA.1 v with z|z;exact B c z;rw [mS.1 z];exact⟨E.2,H.2⟩) o (d+1) (by omega) (by omega)
end
theorem lexT_len: ∀(n p:Nat) (l:Str),l.length<=n->(pY p l).length<=l.length:=by
 intro n
 induction n with
 |zero=>
  intro p l h;have:l=[]:=List.eq_nil_of_length_eq_zero (by omega);subst this;rw [pY,dif_pos rfl];exact Nat.le_refl _
 |succ n c=>
  intro p l h
  by_cases b:l=[]
  ·subst b;rw [pY,dif_pos rfl];exact Nat.le_refl _
  ·have d:=qE (p:=p) b;rw [pY,dif_neg b,List.length_cons];have:=c (p+(bV p l).2+skL (l.drop (bV p l).2)) ((l.drop (bV p l).2).drop (skL (l.drop (bV p l).2))) (by rw [List.length_drop,List.length_drop];omega);rw [List.length_drop,List.length_drop]at this;omega
theorem aKj (s:Str)(a:Nat):(qQ s a).length<=s.length+1:=by
 unfold qQ;rw [List.length_append,List.length_singleton];have:=lexT_len _ (a+skL (s.drop a)) (s.drop (a+skL (s.drop a))) (Nat.le_refl _);rw [List.length_drop]at this;omega
theorem init_s {s:Str} (hs:s.length<=1000000) (x:gB) (n:x.text=s) (o:x.at_=0):
  (∃l,Fab x=some (.ok l)/\ ∃k,k<=s.length/\Rk s x.r (qQ s 0) l (gG.mk (qQ s 0) 0 0 0) k)\/(∃f,Fab x=some (.error f)/\Er (qQ s 0) (gG.mk (qQ s 0) 0 0 0) f):=by
 have b:=aAt x s 0 n o (Nat.zero_le _) hs;dsimp only at b;have ll:=aKj s 0;have d:=uO (s.drop 0);rw [List.length_drop]at d;generalize hp:0+skL (s.drop 0)=p at b
 by_cases g:p=s.length
 ·rw [if_pos g]at b
  left
  refine⟨_,b,0,Nat.zero_le _,0,s.length,aDr s,[],⟨rfl,rfl,rfl,rfl,rfl,?_,rfl,by show(0:Int)≠6;decide,rfl,Nat.le_refl _,Or.inl ⟨rfl,rfl,rfl⟩⟩,rfl⟩;rw [List.drop_zero];exact aFl (hp.trans g)
 ·rw [if_neg g]at b;have m:p<s.length:=by omega
  have h:=aGn hp.symm m;have j:s.drop p≠[]:=λe=>by have:=congrArg List.length e;rw [List.length_drop]at this;simp at this;omega
  have q:=qE (p:=p) j;have tk:=aKo m;have u:(bV p (s.drop p)).1.at_=((p:Nat):Int):=by
   unfold bV;split
   ·rfl
   ·split<;>rfl
  rw [List.length_drop]at q
  by_cases c:(bV p (s.drop p)).1.kind=6
  ·rw [if_pos c]at b
   right
   refine⟨_,b,Or.inr ⟨0,_,⟨rfl,rfl,?_,rfl,c,u,rfl⟩⟩⟩;rw [h];rfl
  ·rw [if_neg c]at b
   left
   refine⟨_,b,_,?_,0,_,_,_,⟨rfl,rfl,rfl,rfl,rfl,by rw [List.drop_zero];exact h,rfl,c,rfl,by omega,Or.inr ⟨tk,rfl⟩⟩,rfl⟩;rw [h,List.length_cons]at ll;omega
def out3 (l:List Str)(m:List fQ):((List dJ)×Str×Int×Int×Int×Int×Str)->Option (Except gQ gB):=λ⟨c,d,e,b,g,h,j⟩=>
 gV (decide (b≠0))
 (gI (Fao (some (gB.mk d e (gK.mk b g h j) (Rules.mk l m c))) 6) λn=>
 thr n λ_=>
 some (.ok (gB.mk d e (gK.mk b g h j) (Rules.mk l m c))))
 (some (.ok (gB.mk d e (gK.mk b g h j) (Rules.mk l m c))))
def out2 (m:gB)(b:List Str):((List fQ)×Str×Int×Int×Int×Int×Str)->Option (Except gQ gB):=λ⟨c,d,e,g,h,j,l⟩=>Fde b c (out3 b c) (m.r.Rules,d,e,g,h,j,l)
def out1 (l:gB):((List Str)×Str×Int×Int×Int×Int×Str)->Option (Except gQ gB):=λ⟨b,c,d,e,g,h,j⟩=>Fdo l b (out2 l b) (l.r.Moves,c,d,e,g,h,j)
theorem rules_eq (c:gB):Fbq c=gI (Fab c) λd=>thr d λb=>Fc5 c (out1 c) (b.text,b.at_,b.now.kind,b.now.at_,b.now.n,b.now.text,c.r.Phases):=by
 unfold Fbq out1 out2 out3;simp only [zS,yU,mk_x]
def fin3 (o:List Str)(p:List fQ):(List Tk)×Int×Int×Int×(List dJ)->Option (Rules×Int×Int):=λ⟨b,c,d,g,j⟩=>
 gI (gI (Fae (gG.mk b c d g)) λq=>
 gV (decide (q.kind≠0))
 (gI (Fae (gG.mk b c d g)) λr=>
 gI (Fak (gG.mk b c d g) r.at_ 6) λh=>
 some (h.l,h.at_,h.pos,h.e))
 (some (b,c,d,g))) λ⟨_,_,u,m⟩=>
 gV (decide (m≠0))
 (some (Rules.mk [] [] [],u,m))
 (gI (Fbh (Rules.mk o p j)) λn=>
 gV (decide (n≠0))
 (some (Rules.mk [] [] [],0,n))
 (some (Rules.mk o p j,0,0)))
def fin2 (b:List Str):(List Tk)×Int×Int×Int×(List fQ)->Option (Rules×Int×Int):=λ⟨c,d,e,g,h⟩=>gI (Fcu (c,d,e,g,[])) (fin3 b h)
def fin1:(List Tk)×Int×Int×Int×(List Str)->Option (Rules×Int×Int):=λ⟨b,c,d,e,g⟩=>gI (Fdv (b,c,d,e,[])) (fin2 g)
theorem rRead_eq (s:Str):Fcj s=gV (decide (200000<(s.length:Int))) (some (Rules.mk [] [] [],0,3)) (gI (Fce s) λb=>gI (Fcf (b,0,0,0,[])) fin1):=by
 unfold Fcj fin1 fin2 fin3;simp only [zS]
theorem FU_j: ∃j,FU=j+1/\3000000<j:=⟨18446744073709551615,by unfold FU;rfl,by decide⟩
section
variable {s:Str}{L:List Tk} (hs:s.length<=1000000) (hL:L.length<=2000000)
theorem aFs {y:Rf}{f:gQ} (h:Er L y f) (a:List Str) (b:List fQ) (c:List dJ):EF (fin3 a b (y.l,y.at_,y.pos,y.e,c)) f:=by
 intro _;unfold fin3;dsimp only;rw [yX];rcases h with ⟨i,h⟩|⟨i,t,h⟩
 ·obtain⟨t,-,d⟩:=vJ h;rw [d,zA,zA,aBp h,zA];have g:(gV (decide (t.kind≠0)) (some (y.l,y.at_,y.pos,y.e)) (some (y.l,y.at_,y.pos,y.e)))=some (y.l,y.at_,y.pos,y.e):=by cases decide (t.kind≠0)<;>rfl
  rw [g,zA];dsimp only;rw [dT h.e0,zI,h.ye,h.yp]
 ·obtain⟨_,f1,f2⟩:=aEl h;rw [aDh h,zA,zA,f1,zA,dT (by rw [h.tk];decide:t.kind≠0),zI,zA];dsimp only;rw [dT f2.e0,zI,f2.ye,f2.yp]
theorem aGr {y:Rf}{f:gQ}(h:Er L y f)(a:List Str)(b:List fQ):EF (fin2 a (y.l,y.at_,y.pos,y.e,b)) f:=by
 obtain⟨j,c,-⟩:=FU_j;unfold fin2;dsimp only;rw [L3R];unfold fG;rw [c];exact aBo h [] (aFs h a b []) j
theorem aHl {y:Rf}{f:gQ}(h:Er L y f)(a:List Str):EF (fin1 (y.l,y.at_,y.pos,y.e,a)) f:=by
 obtain⟨j,b,-⟩:=FU_j;unfold fin1;dsimp only;rw [L2R];unfold fG;rw [b];exact wY h [] (aGr h a []) j
theorem fin3_good {x:gB}{y:Rf}{k:Nat}{a:List Str}{b:List fQ}{c:List dJ} (d:Rk s (Rules.mk a b c) L x y k) (j:okR (Rules.mk a b c)):
  sG (out3 a b (c,x.text,x.at_,x.now.kind,x.now.at_,x.now.n,x.now.text)) (fin3 a b (y.l,y.at_,y.pos,y.e,c)):=by
 unfold out3 fin3;dsimp only;rw [vC d.xr,yX];have xr:=d.xr;obtain⟨i,_,t,rest,q,rfl⟩:=d;rw [rV q,zA,zA,wZ q.ye,zA,wS,zA,kC]
 by_cases h:t.kind=0
 ·have g:x.now.kind=0:=by rw [q.now];unfold conv;dsimp only;rw [h];rfl
  rw [qD (λz=>z g),zH,qD (λz=>z h),zH,zA];dsimp only;rw [qD (λz=>z q.ye),zH];exact Or.inl ⟨x,rfl,by rw [xr];exact j,by rw [xr]⟩
 ·have g:x.now.kind≠0:=by
   rw [q.now];unfold conv;dsimp only;split
   ·decide
   ·exact h
  rw [dT g,zI,dT h,zI,zA];exact Or.inr ⟨_,rfl,by show(6:Int)≠0;decide,by rw [q.now];rfl⟩
include hs hL
theorem fin2_good (g:gB)(p:g.r.Rules=[]){x:gB}{y:Rf}{k:Nat}{a:List Str}{b:List fQ}(d:Rk s (Rules.mk a b []) L x y k)(w:k<=2000000)(q:okL okS a)(ob:okL (λm:fQ=>okS m.From/\okS m.To/\okC m.When) b):
  sG (out2 g a (b,x.text,x.at_,x.now.kind,x.now.at_,x.now.n,x.now.text)) (fin2 a (y.l,y.at_,y.pos,y.e,b)):=by
 obtain⟨j,u,_⟩:=FU_j;unfold out2 fin2;dsimp only;rw [L3P,L3R,p];unfold fG;rw [u];exact b3_loop hs hL a b (λx y k acc d o v=>fin3_good d ⟨q,ob,by show acc.length<=9223372036854775807;omega,v⟩) (λy f acc h=>aFs h _ _ _) k _ x y d [] (by show 0+k<=9000000;omega) (λ_ o=>nomatch o) (j+1) (j+1) (by omega) (by omega)
theorem fin1_good (b:gB)(m:b.r.Rules=[])(u:b.r.Moves=[]){x:gB}{y:Rf}{k:Nat}{a:List Str}(g:Rk s (Rules.mk a [] []) L x y k)(B:k<=2000000)(v:okL okS a):
  sG (out1 b (a,x.text,x.at_,x.now.kind,x.now.at_,x.now.n,x.now.text)) (fin1 (y.l,y.at_,y.pos,y.e,a)):=by
 obtain⟨j,w,_⟩:=FU_j;unfold out1 fin1;dsimp only;rw [L2P,L2R,m,u];unfold fG;rw [w];exact b2_loop hs hL a [] (λx y k acc g o z=>by
  have A:k<=2000000:=by
   obtain⟨i,_,t,rest,q,rfl⟩:=g;have:=congrArg List.length q.d;rw [List.length_drop,List.length_cons]at this;omega
  exact fin2_good hs hL b m g A v ⟨by show acc.length<=9223372036854775807;omega,z⟩) (λy f acc h=>aGr h _ _) k _ x y g [] (by show 0+k<=9000000;omega) (λ_ o=>nomatch o) (j+1) (j+1) (by omega) (by omega)
end
theorem Read_eq (s:Str): ∃r p e,Fci s=some (r,p,e)/\Fcj s=some (r,p,e)/\Br r:=by
 rw [rRead_eq];unfold Fci;simp only [zS]
 by_cases n:200000<(s.length:Int)
 ·rw [dT n,zI,zI];exact⟨_,_,_,rfl,rfl,aIs⟩
 ·rw [qD n,zH,zH];have hs:s.length<=1000000:=by omega
  have hL:(qQ s 0).length<=2000000:=by have:=aKj s 0;omega
  rw [tokens_eq s hs,zA];have l:sG (Fbq (gB.mk s 0 (gK.mk 0 0 0 []) (Rules.mk [] [] []))) (gI (Fcf (qQ s 0,0,0,0,[])) fin1):=by
   obtain⟨j,o,_⟩:=FU_j;rw [rules_eq,L1R];rcases init_s hs (gB.mk s 0 (gK.mk 0 0 0 []) (Rules.mk [] [] [])) rfl rfl with ⟨x,b,k,_,g⟩|⟨f,b,e⟩
   ·rw [b,zA,jV,L1P];unfold fG;rw [o];exact b1_loop hs hL [] [] (λx y k acc g u w=>by
     have A:k<=2000000:=by
      obtain⟨i,p,t,rest,q,rfl⟩:=g;have:=congrArg List.length q.d;rw [List.length_drop,List.length_cons]at this;omega
     exact fin1_good hs hL _ rfl rfl g A ⟨by show acc.length<=9223372036854775807;omega,w⟩) (λy f acc h=>aHl h _) k _ x (gG.mk (qQ s 0) 0 0 0) g [] (by show 0+k<=9000000;omega) (λ_ u=>nomatch u) (j+1) (j+1) (by omega) (by omega)
   ·rw [b,zA,kC];unfold fG;rw [o];exact Or.inr ⟨f,rfl,e.ne,aHp e [] (aHl e []) j e.ne⟩
  rcases l with ⟨x,b,m,a2⟩|⟨f,b,B,a2⟩
  ·rw [b,a2,zA];unfold eiO;dsimp only;obtain⟨e,v⟩:=chk_some x.r;rw [qD (by decide),zH,Check_eq _ m,rCheck_eq _ m,v,zA]
   by_cases z:e=0
   ·subst z;rw [qD (by decide),zH];exact⟨_,_,_,rfl,rfl,(chk_good m v).br⟩
   ·rw [dT z,zI];exact⟨_,_,_,rfl,rfl,aIs⟩
  ·rw [b,a2,zA];unfold eiO;dsimp only;rw [dT B,zI];exact⟨_,_,_,rfl,rfl,aIs⟩
end Go.Lf
