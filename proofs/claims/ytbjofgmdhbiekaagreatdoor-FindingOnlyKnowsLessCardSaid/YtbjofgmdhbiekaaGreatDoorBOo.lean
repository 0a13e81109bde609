/- Laws that the claim stands on; no condition beyond those stated. -/
import Derived.Test.YtbjofgmdhbiekaaGreatDoorBKc
namespace Go.Lf
open Go.RowKit Go.OB Go.Fr1
section
variable {β:Type}
theorem bs_loop {body:(Int×Int->Option β)->Int×Int->Option β} (K n:Nat) (r:Option β)
  (o: ∀k (lo hi:Nat),lo<hi->hi<=n->lo<=K->K<=hi->body k ((lo:Int),(hi:Int))=if (lo+hi)/2<K then k (((lo+hi)/2+1:Nat),(hi:Int))else k ((lo:Int),((lo+hi)/2:Nat)))
  (i: ∀k,body k ((K:Int),(K:Int))=r): ∀(m lo hi a:Nat),hi-lo<=m->lo<=K->K<=hi->hi<=n->m<a->aN body a ((lo:Int),(hi:Int))=r:=by
 intro m
 induction m with
 |zero=>
  intro lo hi a p b c d q;obtain⟨f,rfl⟩: ∃f,a=f+1:=⟨a-1,by omega⟩;have e:lo=K:=by omega
  have g:hi=K:=by omega
  subst e;subst g;exact i _
 |succ m j=>
  intro lo hi a p b c d q;obtain⟨f,rfl⟩: ∃f,a=f+1:=⟨a-1,by omega⟩
  by_cases h:lo<hi
  ·show body (aN body f) _=r;rw [o _ lo hi h d b c]
   by_cases l:(lo+hi)/2<K
   ·rw [if_pos l];exact j _ _ f (by omega) (by omega) c d (by omega)
   ·rw [if_neg l];exact j _ _ f (by omega) b (by omega) (by omega) (by omega)
  ·have e:lo=K:=by omega
   have g:hi=K:=by omega
   subst e;subst g;exact i _
end
def kLe (l:List fC)(t:Int):Nat:=(l.takeWhile λx=>decide (x.At<=t)).length
theorem kLe_le (l:List fC)(t:Int):kLe l t<=l.length:=by
 unfold kLe;exact(List.takeWhile_sublist _).length_le
theorem aVu (t : Int) : ∀ {l : List fC}, (l.Pairwise λa b => a.At < b.At) -> ∀ {i : Nat} {x : fC}, l[i]? = some x -> (x.At <= t ↔ i < kLe l t)
  | [], _, i, x, hx => by simp at hx
  | a :: l, ha, i, x, hx => by
    obtain ⟨h1, h2⟩ := List.pairwise_cons.1 ha;have ih := @aVu t l h2;unfold kLe;rw [List.takeWhile_cons]
    by_cases c : a.At <= t
    · rw [if_pos (by simpa using c), List.length_cons]
      cases i with
      | zero => obtain rfl : a = x := by simpa using hx
                exact ⟨λ_ => by omega, λ_ => c⟩
      | succ i =>
        have := ih (i := i) (x := x) (by simpa using hx);unfold kLe at this;rw [this]; omega
    · rw [if_neg (by simpa using c), List.length_nil]
      refine ⟨λh => ?_, λh => by omega⟩
      cases i with
      | zero => obtain rfl : a = x := by simpa using hx
                exact absurd h c
      | succ i =>
        have := h1 x (qS (i := i) (by simpa using hx));omega
def hld (s:Series)(t g:Int):fC×Bool:=
 match kLe s.Samples t with
 |0=>(fC.mk 0 0 0,false)
 |n+1=>match s.Samples[n]? with
  |some x=>if (!decide (3<=x.Mark))||decide (g<IntKind.i64.wrap (t-x.At))then(fC.mk 0 0 0,false)else(x,true)
  |none=>(fC.mk 0 0 0,false)
theorem aTf (s:Series) (t:Int) (e:s.Samples.Pairwise λa b=>a.At<b.At) (j:s.Samples.length<=20000):
  Fe0 s t (0,(s.Samples.length:Int))=some (kLe s.Samples t:Int):=by
 unfold Fe0 gY;refine bs_loop (kLe s.Samples t) s.Samples.length _ ?_ ?_ s.Samples.length 0 s.Samples.length FU (by omega) (Nat.zero_le _) (kLe_le _ _) (Nat.le_refl _) (aHi (by omega))
 ·intro k lo hi _ _ _ _;have d:s.Samples[(lo+hi)/2]? =some (s.Samples[(lo+hi)/2]'(by omega)):=gE (by omega);have f:IntKind.i64.wrap ((lo:Int)+(hi:Int))=((lo+hi:Nat):Int):=by rw [Go.OB.wrap_i64 (by omega) (by omega)];omega
  have g:pJ .i64 ((lo+hi:Nat):Int) 2=some (((lo+hi)/2:Nat):Int):=by
   unfold pJ;rw [if_neg (by omega),Int.tdiv_eq_ediv_of_nonneg (by omega),Go.OB.wrap_i64 (by omega) (by omega)]
   congr 1
  have i:IntKind.i64.wrap ((((lo+hi)/2:Nat):Int)+1)=(((lo+hi)/2+1:Nat):Int):=fH (n:=20000) (by omega) (by omega);simp only [zD,dT (show(lo:Int)<(hi:Int)by omega),zO,f,g,zA,vU,d,i,yN];have q:=aVu t e d
  by_cases c:(lo+hi)/2<kLe s.Samples t
  ·rw [if_pos c,if_pos (q.2 c)]
  ·rw [if_neg c,if_neg (λh=>c (q.1 h))]
 ·intro k;simp only [zD,qD (show¬((kLe s.Samples t:Int)<(kLe s.Samples t:Int))by omega),zL]
theorem held_eq (s:Series)(t g:Int)(c:s.Samples.Pairwise λa b=>a.At<b.At)(d:s.Samples.length<=20000):Fcg s t g=some (hld s t g):=by
 unfold Fcg hld;have h:=kLe_le s.Samples t;simp only [zD,aTf s t c d,zA];generalize kLe s.Samples t=n at *
 cases n with
 |zero=>rfl
 |succ n=>
  have f:s.Samples[n]? =some (s.Samples[n]'(by omega)):=gE (by omega);have e:IntKind.i64.wrap (((n+1:Nat):Int)-1)=(n:Int):=by rw [Go.OB.wrap_i64 (by omega) (by omega)];omega
  simp only [qD (show¬(((n+1:Nat):Int)=0)by omega),zL,e,vU,f,zA,Fdp,zD];generalize decide (3<=(s.Samples[n]'(by omega)).Mark)=a;generalize decide (g<IntKind.i64.wrap (t-(s.Samples[n]'(by omega)).At))=b
  cases a<;>cases b<;>rfl
structure SerD (s:Series):Prop where
 d1:1<=s.Den
 d2:s.Den<=1000000
 n:s.Samples.length<=20000
 all: ∀x∈s.Samples,aFb x
 ord:s.Samples.Pairwise λa b=>a.At<b.At
theorem fault0 {x:fC}(h:aFb x):Fbw x=some 0:=by
 have a0:=h.a0;have a1:=h.a1;have n0:=h.n0;have n1:=h.n1;have m0:=h.m0;have m1:=h.m1;have nm:=h.nm;unfold Fbw Fd3;rw [aQm,zA,aQm,zA,aQm,zA,qD (by omega),qD (by omega),qD (by omega),qD (by omega),qD (by omega),qD (by omega)];show(gB (gG (decide (x.N≠0)) _) _)=_;rw [zD];by_cases c:x.N=0;rw [c];rfl;rw [dT c,zO,zD,zA,dT (nm c)];rfl
theorem check5 {s:Series} (h:SerD s):Fc1 s=some 0:=by
 have e:=h.n;have d1:=h.d1;have d2:=h.d2;unfold Fc1 Fex;rw [aQm,zA,qD (by omega),qD (by omega),show(false||false)=false from rfl,zL,zD,zD,qD (by omega),zL,yC];have b:Ff1 s (λ_=>some (-1,0)) 0=some (-1,0):=by
  unfold Ff1;refine yP (λi=>(i:Int)) s.Samples.length (by omega) rfl (λk i hi=>?_) (λk=>by simp only [zD,yE,zL]);have a:s.Samples[i]? =some s.Samples[i]:=gE hi;simp only [zD,yB hi,zO,yK a,zA,fault0 (h.all _ (List.getElem_mem hi)),show decide ((0:Int)≠0)=false from rfl,zL]
  by_cases c:0<i
  ·rw [dT (show(0:Int)<(i:Int)by omega),zO,aFu a (by omega) c,zA];have d:s.Samples[i-1]? =some (s.Samples[i-1]'(by omega)):=gE (by omega);rw [d];have:=(List.pairwise_iff_getElem.1 h.ord) (i-1) i (by omega) hi (by omega);show gB (some (decide (s.Samples[i].At<=(s.Samples[i-1]'(by omega)).At))) _=_;rw [qD (by omega),zA,zL,fH hi (by omega)]
  ·rw [qD (show¬(0:Int)<(i:Int)by omega),zL,zA,zL,fH hi (by omega)]
 rw [b,zA]
structure TrOk (l:List Track):Prop where
 n:l.length<=30
 nm: ∀t∈l,aEf t.Name=true
 u:l.Pairwise λa b=>a.Name≠b.Name
 sr: ∀t∈l,SerD t.Series
 g: ∀t∈l,0<=t.Long/\t.Long<=1099511627776
theorem nmL {s:Str}(h:aEf s=true):s.length<=30:=by
 unfold aEf at h;simp only [Bool.and_eq_true,decide_eq_true_eq]at h;exact h.1.1.1
theorem name_ok {s:Str}(h:aEf s=true):okS s:=by
 have:=nmL h;unfold okS;omega
theorem out6 (n a b:Int):Fbf n a b=some (decide (n<a)||decide (b<n)):=by
 unfold Fbf;simp only [zD,zA,xC]
theorem aMv {l:List Track}(h:TrOk l):Fau l=some 0:=by
 have m:=h.n;unfold Fau;rw [zD,zD,qD (by omega),zL,yC];unfold Fii;refine yP (λi=>(i:Int)) l.length (by omega) rfl (λk i hi=>?_) (λk=>by simp only [zD,yE,zL]);have d:l[i]? =some l[i]:=gE hi;have hm:=List.getElem_mem hi;have o:=h.g _ hm;simp only [zD,yB hi,zO,yK d,zA,aHh _ (name_ok (h.nm _ hm)),h.nm _ hm,Bool.not_true,zL,yC];have e: ∀b:Unit->Option Int,Feq l (i:Int) b 0=b ():=by
  intro b;unfold Feq;refine yP (λj=>(j:Int)) i (by omega) rfl (λk j f=>?_) (λk=>by simp only [zD,yE,zL]);have a:j<l.length:=by omega
  have c:l[j]? =some l[j]:=gE a;have:=(List.pairwise_iff_getElem.1 h.u) j i a hi f;simp only [zD,dT (show(j:Int)<(i:Int)by omega),zO,yK c,yK d,zA,qD this,zL,fH a (by omega)]
 rw [e,check5 (h.sr _ hm),zA,show decide ((0:Int)≠0)=false from rfl,zL,out6,zA,qD (by omega),qD (by omega),show(false||false)=false from rfl,zL,fH hi (by omega)]
def inT (n:Int)(x:Track):jI:=let h:=hld x.Series (64*n+63) x.Long;jI.mk h.1.N h.2
theorem time_eq {n:Int}(a:0<=n)(b:n<=4194303):IntKind.i64.wrap (IntKind.i64.wrap (IntKind.i64.wrap (64*n)+64)-1)=64*n+63:=by
 rw [Go.OB.wrap_i64 (n:=64*n) (by omega) (by omega),Go.OB.wrap_i64 (n:=64*n+64) (by omega) (by omega),Go.OB.wrap_i64 (by omega) (by omega)];omega
theorem aTs {l:List Track}(h:TrOk l){n:Int}(c:0<=n)(d:n<=4194303):Faz l n=some (l.map (inT n),0):=by
 have f:=h.n;unfold Faz Fds;rw [aMv h,zA,zD,show decide ((0:Int)≠0)=false from rfl,zL,out6,zA,qD (by omega),qD (by omega),show(false||false)=false from rfl,zL];have e:Fe3 l n ([],0)=some (l.map (inT n)):=by
  unfold Fe3;refine yP (λi=>((l.take i).map (inT n),(i:Int))) l.length (by omega) rfl (λk i hi=>?_) (λk=>by simp only [zD,yE,zL,List.take_length]);have a:l[i]? =some l[i]:=gE hi;have b:=h.sr _ (List.getElem_mem hi);simp only [zD,yB hi,zO,yK a,zA,time_eq c d,held_eq _ _ _ b.ord b.n];rw [aG (by rw [List.length_map,List.length_take,List.length_singleton];omega) (by decide),zA,fH hi (by omega),bU a,List.map_append,List.map_singleton];rfl
 rw [e,zA,zA]
theorem aDs {a σ:Type}{f g:σ->a->σ}: ∀{l:List a}{s:σ},(∀x∈l,∀s,f s x=g s x)->l.foldl f s=l.foldl g s
 | [],_,_=>rfl
 |x::l,s,h=>by
  rw [List.foldl_cons,List.foldl_cons,h x (List.mem_cons_self ..)];exact aDs λy b=>h y (List.mem_cons_of_mem _ b)
theorem aVq {a:Type}{p q:a->Bool}: ∀{l:List a},(∀x∈l,p x=q x)->l.any p=l.any q
 | [],_=>rfl
 |x::l,h=>by
  rw [List.any_cons,List.any_cons,h x (List.mem_cons_self ..),aVq λy b=>h y (List.mem_cons_of_mem _ b)]
structure aPi (r q:gU)(k:Int):Prop where
 f:frN r k=frN q k
 s:stN r k=stN q k
theorem smp_mem {m:Map}{p:Param}{R R':Int->gU}{base:Int}{l:List fE}(h: ∀x∈l,aPi (R (base+x.Frame)) (R' (base+x.Frame)) x.Word/\aPi (R (base+x.Frame)) (R' (base+x.Frame)) 3):aEk m p R base l=aEk m p R' base l:=by
 have b:loM R base l=loM R' base l:=by
  unfold loM;exact aDs λx a s=>by rw [(h x a).1.s,(h x a).2.s]
 have c:badM m.Version R base l=badM m.Version R' base l:=by
  unfold badM;exact aVq λx a=>by rw [(h x a).2.f]
 have d:sQ R base l=sQ R' base l:=by
  unfold sQ;exact aDs λx a s=>by unfold vst;rw [(h x a).1.f]
 unfold aEk;rw [b,c,d]
theorem kept_w (s:List (gW×Bool)) (r:gU) {k:Nat} (a:k<64):(aQ s r.Number k=true->aPi (aH s r) r (k:Int))/\(aQ s r.Number k=false->stN (aH s r) (k:Int)=0):=by
 refine⟨λh=>⟨?_,?_⟩,λh=>?_⟩;show((uC (aQ s r.Number) r.Frame jL).l.getD (k:Int).toNat 0).toNat=_;rw [Int.toNat_natCast,vZ _ _ _ a,if_pos h];rfl;show(uC (aQ s r.Number) r.States jL).l.getD (k:Int).toNat 0=_;rw [Int.toNat_natCast,vZ _ _ _ a,if_pos h];rfl;show(uC (aQ s r.Number) r.States jL).l.getD (k:Int).toNat 0=_;rw [Int.toNat_natCast,vZ _ _ _ a,if_neg (by rw [h];decide),aTl a]
theorem stN_zero (k:Int):stN qO k=0:=by
 show(List.replicate 64 (0:Int)).getD k.toNat 0=0;rw [List.getD_eq_getElem?_getD,List.getElem?_replicate];split<;>rfl
theorem kept_at {l:List gU} (d:Srt l) (s:List (gW×Bool)) (n:Int) {k:Nat} (e:k<64):(aQ s n k=true->aPi (eF (l.map (aH s)) n) (eF l n) (k:Int))/\(aQ s n k=false->stN (eF (l.map (aH s)) n) (k:Int)=0):=by
 rw [aTa d (aH s) (λ_=>rfl)];by_cases c: ∃r∈l,r.Number=n;rw [if_pos c];obtain⟨r,b,a⟩:=c;rw [jM d b a];have:=kept_w s r e;rw [a]at this;exact this;rw [if_neg c,nH λr b a=>c ⟨r,b,a⟩];exact⟨λ_=>⟨rfl,rfl⟩,λ_=>stN_zero _⟩
def LsS (x y:fC):Prop:=x.At=y.At/\(x=y\/x.Mark<2)
inductive LsL:List fC->List fC->Prop
 |nil:LsL [] []
 |cons {x y:fC}{l m:List fC}:LsS x y->LsL l m->LsL (x::l) (y::m)
theorem LsL.app {a b c d:List fC}(h:LsL a b)(f:LsL c d):LsL (a++c) (b++d):=by
 induction h with
 |nil=>exact f
 |cons e _ g=>exact LsL.cons e g
theorem LsL.maps {a:Type}{f g:a->fC}: ∀{l:List a},(∀c∈l,LsS (f c) (g c))->LsL (l.map f) (l.map g)
 | [],_=>LsL.nil
 |x::_,h=>LsL.cons (h x (List.mem_cons_self ..)) (LsL.maps λc b=>h c (List.mem_cons_of_mem _ b))
theorem LsL.self (l:List fC):LsL l l:=by
 induction l with
 |nil=>exact LsL.nil
 |cons _ l a=>exact LsL.cons ⟨rfl,.inl rfl⟩ a
theorem LsL.kLe {l m:List fC}(h:LsL l m)(t:Int):kLe l t=kLe m t:=by
 induction h with
 |nil=>rfl
 | @cons _ _ l m e _ a=>
  unfold Go.Lf.kLe at a⊢;rw [List.takeWhile_cons,List.takeWhile_cons,e.1];split
  ·rw [List.length_cons,List.length_cons,a]
  ·rfl
theorem LsL.at {l m : List fC} (h : LsL l m) : ∀ {i : Nat} {x : fC}, l[i]? = some x -> ∃ y, m[i]? = some y /\ LsS x y := by
  induction h with
  | nil => intro i x hx; simp at hx
  | @cons a b l m e _ ih =>
    intro i x hx
    cases i with
    | zero => obtain rfl : a = x := by simpa using hx
              exact ⟨b, rfl, e⟩
    | succ i => exact ih (i := i) (by simpa using hx)
theorem hld_less {s b:Series} (h:LsL s.Samples b.Samples) {t g:Int} (a:(hld s t g).2=true):hld s t g=hld b t g:=by
 have e:=h.kLe t;unfold hld at a⊢;rw [<-e];generalize kLe s.Samples t=n at a⊢
 cases n with
 |zero=>rfl
 |succ n=>
  cases hx:s.Samples[n]? with
  |none=>simp only [hx]at a;cases a
  |some x=>
   obtain⟨_,d,-,c⟩:=h.at hx;simp only [hx,d]at a⊢;rcases c with rfl|c
   ·rfl
   ·rw [qD (by omega: ¬3<=x.Mark)]at a
    cases a
structure LsT (x y:Track):Prop where
 g:x.Long=y.Long
 s:LsL x.Series.Samples y.Series.Samples
theorem inT_less {x y:Track}(h:LsT x y){n:Int}(a:(inT n x).Known=true):inT n x=inT n y:=by
 unfold inT at a⊢;rw [<-h.g];have:=hld_less h.s (t:=64*n+63) (g:=x.Long) a;rw [this]
theorem cal_less (c:gZ) {x y:fC} (h:LsS x y):LsS (qR c x) (qR c y):=by
 obtain⟨a,rfl|hm⟩:=h
 ·exact⟨rfl,.inl rfl⟩
 ·have e:qR c x=x:=by unfold qR;rw [if_neg (by omega)]
  have b:(qR c y).At=y.At:=by
   unfold qR;split
   ·split<;>rfl
   ·rfl
  exact⟨by rw [e,b,a],.inr (by rw [e];exact hm)⟩
theorem LsL.cal {l m:List fC}(h:LsL l m)(c:gZ):LsL (l.map (qR c)) (m.map (qR c)):=by
 induction h with
 |nil=>exact LsL.nil
 |cons e _ a=>exact LsL.cons (cal_less c e) a
theorem smp_less {d:List gU} (o:uQ d) (m:Map) (p:Param) (s:List (gW×Bool)) (base:Int) {c:Cell} (i: ∀x∈c.Places,aId x):LsS (dS m p (d.map (aH s)) base c) (dS m p d base c):=by
 refine⟨rfl,?_⟩;unfold dS
 by_cases j:1<=loM (eF (d.map (aH s))) base c.Places
 ·left
  unfold loM at j;rw [aLe (λx:fE=>stN (eF (d.map (aH s)) (base+x.Frame)) x.Word) (λx:fE=>stN (eF (d.map (aH s)) (base+x.Frame)) 3)]at j;have f: ∀x∈c.Places,∀k:Nat,k<64->1<=stN (eF (d.map (aH s)) (base+x.Frame)) (k:Int)->aPi (eF (d.map (aH s)) (base+x.Frame)) (eF d (base+x.Frame)) (k:Int):=by
   intro x g k n h;obtain⟨a,b⟩:=kept_at o.srt s (base+x.Frame) n
   cases hc:aQ s (base+x.Frame) k with
   |true=>exact a hc
   |false=>rw [b hc]at h;omega
  rw [smp_mem (R':=eF d)];intro x g;have w0:=(i x g).w0;have w1:=(i x g).w1;have h:=j.2 x g;obtain⟨k,n⟩: ∃k:Nat,x.Word=(k:Int):=⟨x.Word.toNat,by omega⟩;refine⟨?_,?_⟩
  ·rw [n]at h⊢;exact f x g k (by omega) h.1
  ·exact f x g 3 (by decide) h.2
 ·right
  have q:=aAm (b:=Book.mk m [] d) o (aH s) (λ_=>rfl) (vN s);have r:=aQe (R:=eF (d.map (aH s))) (base:=base) (l:=c.Places) λx g=>⟨i x g,tK q.ok _⟩
  have e:loM (eF (d.map (aH s))) base c.Places=0:=by omega
  show(aEk m p (eF (d.map (aH s))) base c.Places).2<2;unfold aEk;rw [e];exact(by decide:(0:Int)<2)
theorem aKk {a:List gU}(b:uQ a)(m:Map){p:Param}(d:pM p)(s:List (gW×Bool))(n0:Int): ∀k,LsL (kJ m p (a.map (aH s)) (gK p 0) n0 k) (kJ m p a (gK p 0) n0 k)
 |0=>LsL.nil
 |k+1=>by
  rw [aAx,aAx];refine(aKk b m d s n0 k).app (LsL.maps λc e=>smp_less b m p s _ (tY d e).2.1)
theorem tr_less {b:Book} (g:uQ b.Rests) {x:fG} (h:SrcOk b x) (s:List (gW×Bool)):LsT (trM b (b.Rests.map (aH s)) x) (trM b b.Rests x):=by
 have d:=aAm g (aH s) (λ_=>rfl) (vN s);have a:LsL (kS b.Map (kV b x) (b.Rests.map (aH s))).1.Samples (kS b.Map (kV b x) b.Rests).1.Samples:=by
  have i:aV (b.Rests.map (aH s))=aV b.Rests:=by unfold aV;rw [d.f,d.l]
  unfold kS;rw [i,d.f,d.l]
  by_cases c:b.Rests=[]
  ·rw [if_pos (d.nil.2 c),if_pos c];exact LsL.nil
  ·rw [if_neg (λe=>c (d.nil.1 e)),if_neg c];split
   ·exact LsL.nil
   ·exact(aKk g b.Map (qE h.ck) s _ _).app (LsL.self _)
 refine⟨rfl,?_⟩;unfold trM;rcases x.Meaning with _|⟨c,_|⟨e,l⟩⟩
 ·exact a
 ·exact a.cal c
 ·exact a
theorem app_rng {c:gZ} (h:aJp c) {v:Int} (b:(aMq c v).2=true): -1125899906842624<=(aMq c v).1/\(aMq c v).1<=1125899906842624:=by
 have e:=h.rg;unfold pF at e;simp only [Bool.or_eq_false_iff,tZ,decide_eq_false_iff_not]at e;have:=aKa c v;rcases bV (aQc c v) c.Lines 0 with ⟨_,x,_,-,a,d⟩|⟨-,d⟩
 ·rw [d]at this;unfold aQc at a;split at a
  ·simp only [Option.some.injEq]at a;rw [this]at a;simp only [Option.some.injEq]at a;split at a
   ·rw [<-a]at b;cases b
   ·rename_i c2;rw [<-a];have:=tZ.1 (by simpa using c2:dC (aAf x v) c.Low c.High=false);exact⟨by show _<=aAf x v;omega,by show aAf x v<=_;omega⟩
  ·cases a
 ·rw [d]at this;simp only [Option.some.injEq]at this;rw [<-this]at b;cases b
theorem cal_smp {c:gZ} (h:aJp c) {x:fC} (a:aFb x):aFb (qR c x):=by
 unfold qR;split;split;rename_i b d;have:=app_rng h d;exact⟨a.a0,a.a1,this.1,this.2,a.m0,a.m1,λ_=>b⟩;exact⟨a.a0,a.a1,by show(_:Int)<=0;decide,by show(0:Int)<=_;decide,by show(0:Int)<=1;decide,by show(1:Int)<=4;decide,λe=>absurd rfl e⟩;exact a
theorem cal_at (c:gZ)(x:fC):(qR c x).At=x.At:=by
 unfold qR;split;split<;>rfl;rfl
theorem meant_ok {c:gZ} (h:aJp c) {s:Series} (d:aUc s):SerD (aHf s c):=by
 refine⟨h.d1,h.d2,?_,λ_ e=>?_,?_⟩;show(s.Samples.map (qR c)).length<=_;rw [List.length_map];exact d.n;obtain⟨y,f,rfl⟩:=List.mem_map.1 e;exact cal_smp h (d.all y f);show(s.Samples.map (qR c)).Pairwise _;rw [List.pairwise_map];exact List.Pairwise.imp (λ {_ _} h=>by rw [cal_at,cal_at];exact h) d.ord
theorem aRc {b:Book}{i:Nat}{x:fG}(h:aEc b i x=0):aEf x.Track=true/\(b.Sources.take i).any (λy=>decide (y.Track=x.Track))=false/\0<=x.Long/\x.Long<=1099511627776:=by
 unfold aEc at h;split at h;cases h;rename_i a;split at h;cases h;rename_i c2;split at h;cases h;split at h;cases h;split at h;rename_i c;exact absurd h c;split at h;cases h;rename_i c3;exact⟨by simpa using a,by simpa using c2,tZ.1 (by simpa using c3)⟩
theorem aKt {b:Book}{k:List gU} (u:SzB b) (o:aDq b) (v:aBg b=false) (h:uV b k):TrOk (aI b k):=by
 have f: ∀t∈aI b k,∃(i:Nat) (x:fG),b.Sources[i]? =some x/\t=trM b k x:=by
  intro t d;unfold aI at d;obtain⟨x,g,rfl⟩:=List.mem_map.1 d;obtain⟨i,hi,rfl⟩:=List.mem_iff_getElem.1 g;exact⟨i,_,gE hi,rfl⟩
 refine⟨by unfold aI;rw [List.length_map];exact o.sn,λt d=>?_,?_,λt d=>?_,λt d=>?_⟩
 ·obtain⟨i,x,g,rfl⟩:=f t d;exact(aRc (o.src i x g)).1
 ·unfold aI;rw [List.pairwise_map,List.pairwise_iff_getElem];intro i j hi w _ z;have:=(aRc (o.src j _ (gE w))).2.1;rw [List.any_eq_false]at this;have hm:b.Sources[i]∈b.Sources.take j:=by
   rw [List.mem_iff_getElem];exact⟨i,by rw [List.length_take];omega,by rw [List.getElem_take]⟩
  have q:b.Sources[i].Track=b.Sources[j].Track:=z;have:=this _ hm;rw [q]at this;simp at this
 ·obtain⟨i,x,g,rfl⟩:=f t d;have p:=src_ok u o v g;have a:=ser_ok (m:=b.Map) p.sz p.ck h.ok (by rw [aQg h];exact p.fit);have r:SerD (kS b.Map (kV b x) k).1:=⟨by rw [a.den];decide,by rw [a.den];decide,a.n,a.all,a.ord⟩;have s:=p.mc;unfold trM;rcases hm:x.Meaning with _|⟨c,_|⟨_,_⟩⟩
  ·exact r
  ·rw [hm]at s;exact meant_ok (cal_ok (s c (mS.2 rfl)).1) a
  ·exact r
 ·obtain⟨i,x,g,rfl⟩:=f t d;exact(aRc (o.src i x g)).2.2
theorem tracks_p {b:Book} (d:SzB b): ∃r:List Track×Int,Fct b=some r/\(r.2=0->aDq b/\aBg b=false/\r.1=aI b b.Rests):=by
 obtain⟨e,g,-,i⟩:=aPr d;unfold Fct;rw [g,zA]
 repeat (first |rw [zD]|rw [yC]|rw [zA])
 by_cases c:e≠0
 ·rw [dT c];exact⟨([],e),rfl,λh=>absurd h c⟩
 obtain⟨a,f⟩:=i (by omega);rw [qD c,zL,all_l d a f (aKf a.rs),zA];exact⟨_,rfl,λ_=>⟨a,f,rfl⟩⟩
theorem only_p {b:Book} (f:SzB b) (a:List gW) (g:a.length<=9223372036854775807): ∃r:List Track×Int,Fb0 b a=some r/\(r.2=0->r.1=aI b (b.Rests.map (aH (aJg a)))):=by
 obtain⟨e,i,-,j⟩:=aPr f;unfold Fb0;rw [i,zA]
 repeat (first |rw [zD]|rw [yC]|rw [zA])
 by_cases c:e≠0
 ·rw [dT c];exact⟨([],e),rfl,λh=>absurd h c⟩
 rw [qD c,zL,wf_l a g,zA]
 repeat (first |rw [zD]|rw [yC]|rw [zA])
 by_cases c2:aLi a≠0
 ·rw [dT c2];exact⟨([],aLi a),rfl,λh=>absurd h c2⟩
 obtain⟨d,k⟩:=j (by omega);have l:=aAm d.rs (aH (aJg a)) (λ_=>rfl) (vN _);rw [qD c2,zL,set_l a g,zA,only_l b.Rests _ d.rs.n,zA,all_l f d k l,zA];exact⟨_,rfl,λ_=>rfl⟩
theorem less_all {b:Book}(e:SzB b)(d:aDq b)(f:aBg b=false)(s:List (gW×Bool)){i:Nat}{x y:Track}(a:(aI b (b.Rests.map (aH s)))[i]? =some x)(c:(aI b b.Rests)[i]? =some y):LsT x y:=by
 unfold aI at a c;rw [List.getElem?_map]at a c
 cases he:b.Sources[i]? with
 |none=>rw [he]at a;cases a
 |some _=>
  rw [he]at a c;obtain rfl:=oI a;obtain rfl:=oI c;exact tr_less d.rs (src_ok e d f he) s
theorem less_L2 {P Q:List jI}(f:Q.length=P.length)(g:P.length<=1000)(h: ∀(i:Nat) (q p:jI),Q[i]? =some q->P[i]? =some p->q.Known=true->q=p)(k:Unit->Option Bool):Fd4 k P Q 0=k ():=by
 unfold Fd4;refine yP (λi=>(i:Int)) Q.length (by omega) rfl (λd i hi=>?_) (λd=>by simp only [zD,yE,zL]);have a:Q[i]? =some Q[i]:=gE hi;have b:P[i]? =some (P[i]'(by omega)):=gE (by omega);simp only [zD,yB hi,zO,yK a,yK b,zA,fH hi (by omega)]
 cases c:Q[i].Known with
 |true=>
  have e:=h i _ _ a b c;rw [zO,e,dT rfl];rfl
 |false=>rfl
theorem run_up {body:(Int->Option Bool)->Int->Option Bool}{a c:Int}{r:Option Bool}(d:0<=a)(e:c<=4194303)
    (h: ∀k t,a<=t->t<=c->body k t=k (t+1))(b: ∀k t,c<t->body k t=r):gY body a=r:=by
 refine yP (λi=>a+(i:Int)) (c+1-a).toNat (by omega) (by simp) (λk i _=>?_) (λk=>b k _ (by omega));rw [h k _ (by omega) (by omega)];congr 1;omega
theorem less_law {b:Book} (j:SzB b) (g:List gW) (A:g.length<=9223372036854775807) (a c:Int) (e:Fbe=some true):Fc0 b g a c=some true:=by
 obtain⟨⟨t1,t2⟩,B,c2⟩:=tracks_p j;obtain⟨⟨_,C⟩,d1,d2⟩:=only_p j g A;unfold Fc0;simp only [B,d1,zA,zD,e,yC]
 by_cases h:t2=0
 ·by_cases l:C=0
  ·by_cases r:a<0
   ·simp only [h,l,r,ne_eq,not_true,decide_false,decide_true,zA,zO,zL]
   ·by_cases v:4194304<=c
    ·simp only [h,l,r,v,ne_eq,not_true,decide_false,decide_true,zA,zO,zL]
    ·obtain⟨m,s,rfl⟩:=c2 h;obtain rfl:=d2 l;simp only [h,l,r,v,ne_eq,not_true,decide_false,zA,zL]
     by_cases w:60<IntKind.i64.wrap (c-a)
     ·rw [dT w,zO]
     ·have u:=aKt j m s (aKf m.rs);have D:=aAm m.rs (aH (aJg g)) (λ_=>rfl) (vN _);have z:=aKt j m s D;have f:(aI b (b.Rests.map (aH (aJg g)))).length=(aI b b.Rests).length:=by unfold aI;rw [List.length_map,List.length_map]
      have I:=u.n;rw [qD w,zL,f,qD (by omega),zL,aMv u,zA,show decide (¬(0:Int)=0)=false from rfl,zA,zL,aMv z,zA,show decide (¬(0:Int)=0)=false from rfl,zA,zL];unfold Fgw;refine run_up (a:=a) (c:=c) (by omega) (by omega) (λk t E F=>?_) (λk t E=>?_)
      ·rw [zD,dT F,zO,yC,aTs u (by omega) (by omega),aTs z (by omega) (by omega)];simp only [zA];rw [less_L2 (by rw [List.length_map,List.length_map,f]) (by rw [List.length_map];omega)]
       ·rw [zD,wrap_i64 (n:=t+1) (by omega) (by omega)]
       ·intro i _ _ o d G;rw [List.getElem?_map]at o d
        cases hqx:(aI b (b.Rests.map (aH (aJg g))))[i]? with
        |none=>rw [hqx]at o;cases o
        |some _=>
         cases hpx:(aI b b.Rests)[i]? with
         |none=>rw [hpx]at d;cases d
         |some _=>
          rw [hqx]at o;rw [hpx]at d;obtain rfl:=oI o;obtain rfl:=oI d;exact inT_less (less_all j m s (aJg g) hqx hpx) G
      ·rw [zD,qD (by omega),zL]
  ·simp only [h,l,ne_eq,not_true,not_false_eq_true,decide_false,decide_true,zA,zO,zL]
 ·simp only [h,ne_eq,not_false_eq_true,decide_true,zA,zO]
theorem szP {p:Param}(h:aFw p):SzP p:=⟨h.1,h.2.2.1.1,h.2.2.2.2.2.2.2.1,λs a=>h.2.2.2.2.2.2.2.2 s a⟩
theorem szR {r:gU} (h:aGm r):SzR r:=by
 have c:=h.2.1;have a: ∀x∈r.Frame.l,0<=x/\x<65536:=by
  intro x d;have:=bounds_u16 (c x d);omega
 refine⟨r.Frame.l.map Int.toNat,by rw [List.length_map];exact r.Frame.h,?_,?_⟩
 ·intro i;unfold wd;rw [List.getD_eq_getElem?_getD,List.getElem?_map]
  cases hi:r.Frame.l[i]? with
  |none=>show(0:Nat)<65536;decide
  |some x=>
   have:=a x (qS hi);show x.toNat<65536;omega
 ·apply Arr.ext;unfold en;simp only [List.map_map];have: ∀l:List Int,(∀x∈l,0<=x/\x<65536)->l=l.map ((λn:Nat=>(n:Int))∘Int.toNat):=by
   intro l
   induction l with
   |nil=>intro _;rfl
   |cons x l e=>
    intro b;rw [List.map_cons,<-e λy f=>b y (List.mem_cons_of_mem _ f)];have:=b x (List.mem_cons_self ..)
    congr 1
    show x=((x.toNat:Nat):Int);omega
  exact this _ a
theorem szB {b:Book}(h:aSz b):SzB b:=
 ⟨⟨h.1.2.1,λp d=>szP (h.1.2.2 p d)⟩,h.2.1.1,λx a=>⟨(h.2.1.2 x a).1,(h.2.1.2 x a).2.2.1.1,λc e=>((h.2.1.2 x a).2.2.1.2 c e).2.1.1⟩,h.2.2.1,λr f=>szR (h.2.2.2 r f)⟩
theorem law_Less (b:Book)(d:List gW)(a c:Int)(e:aSz b)(f:okL (λx=>aIl x) d)(_:i64 a)(_:i64 c):Fc0 b d a c=some true:=less_law (szB e) d f.1 a c aSu
end Go.Lf
