/- Laws that the claim stands on; no condition beyond those stated. -/
import Derived.Test.YtbjofgmdhbiekaaGreatDoorBKc
namespace Go.Lf
open Go.RowKit Go.OB Go.Fr1
section
variable {β:Type}
theorem bs_loop {body:(Int×Int->Option β)->Int×Int->Option β} (K n:Nat) (r:Option β)
  (o: ∀k (lo hi:Nat),lo<hi->hi<=n->lo<=K->K<=hi->body k ((lo:Int),(hi:Int))=if (lo+hi)/2<K then k (((lo+hi)/2+1:Nat),(hi:Int))else k ((lo:Int),((lo+hi)/2:Nat)))
  (i: ∀k,body k ((K:Int),(K:Int))=r): ∀(m lo hi a:Nat),hi-lo<=m->lo<=K->K<=hi->hi<=n->m<a->kC body a ((lo:Int),(hi:Int))=r:=by
 intro m
 induction m with
 |zero=>
  intro lo hi a h1 b c d p;obtain⟨f,rfl⟩: ∃f,a=f+1:=⟨a-1,by omega⟩;have e:lo=K:=by omega
  have g:hi=K:=by omega
  subst e;subst g;exact i _
 |succ m j=>
  intro lo hi a h1 b c d p;obtain⟨f,rfl⟩: ∃f,a=f+1:=⟨a-1,by omega⟩
  by_cases h:lo<hi
  ·show body (kC body f) _=r;rw [o _ lo hi h d b c]
   by_cases l:(lo+hi)/2<K
   ·rw [if_pos l];exact j _ _ f (by omega) (by omega) c d (by omega)
   ·rw [if_neg l];exact j _ _ f (by omega) b (by omega) (by omega) (by omega)
  ·have e:lo=K:=by omega
   have g:hi=K:=by omega
   subst e;subst g;exact i _
end
def kLe (l:List fE)(t:Int):Nat:=(l.takeWhile λx=>decide (x.At<=t)).length
theorem kLe_le (l:List fE)(t:Int):kLe l t<=l.length:=by
 unfold kLe;exact(List.takeWhile_sublist _).length_le
theorem aPz (t : Int) : ∀ {l : List fE}, (l.Pairwise λa b => a.At < b.At) -> ∀ {i : Nat} {x : fE}, l[i]? = some x -> (x.At <= t ↔ i < kLe l t)
  | [], _, i, x, hx => by simp at hx
  | a :: l, ha, i, x, hx => by
    obtain ⟨h1, h2⟩ := List.pairwise_cons.1 ha;have ih := @aPz t l h2;unfold kLe;rw [List.takeWhile_cons]
    by_cases c : a.At <= t
    · rw [if_pos (by simpa using c), List.length_cons]
      cases i with
      | zero => obtain rfl : a = x := by simpa using hx
                exact ⟨λ_ => by omega, λ_ => c⟩
      | succ i =>
        have := ih (i := i) (x := x) (by simpa using hx);unfold kLe at this;rw [this]; omega
    · rw [if_neg (by simpa using c), List.length_nil]
      refine ⟨λh => ?_, λh => by omega⟩
      cases i with
      | zero => obtain rfl : a = x := by simpa using hx
                exact absurd h c
      | succ i =>
        have := h1 x (qS (i := i) (by simpa using hx));omega
def hld (s:Series)(t g:Int):fE×Bool:=
 match kLe s.Samples t with
 |0=>(fE.mk 0 0 0,false)
 |n+1=>match s.Samples[n]? with
  |some x=>if (!decide (3<=x.Mark))||decide (g<IntKind.i64.wrap (t-x.At))then(fE.mk 0 0 0,false)else(x,true)
  |none=>(fE.mk 0 0 0,false)
theorem aWz (s:Series) (t:Int) (e:s.Samples.Pairwise λa b=>a.At<b.At) (j:s.Samples.length<=20000):
  Fes s t (0,(s.Samples.length:Int))=some (kLe s.Samples t:Int):=by
 unfold Fes gZ;refine bs_loop (kLe s.Samples t) s.Samples.length _ ?_ ?_ s.Samples.length 0 s.Samples.length FU (by omega) (Nat.zero_le _) (kLe_le _ _) (Nat.le_refl _) (aLo (by omega))
 ·intro k lo hi h1 _ _ _;have d:s.Samples[(lo+hi)/2]? =some (s.Samples[(lo+hi)/2]'(by omega)):=gE (by omega);have f:IntKind.i64.wrap ((lo:Int)+(hi:Int))=((lo+hi:Nat):Int):=by rw [Go.OB.wrap_i64 (by omega) (by omega)];omega
  have g:pX .i64 ((lo+hi:Nat):Int) 2=some (((lo+hi)/2:Nat):Int):=by
   unfold pX;rw [if_neg (by omega),Int.tdiv_eq_ediv_of_nonneg (by omega),Go.OB.wrap_i64 (by omega) (by omega)]
   congr 1
  have i:IntKind.i64.wrap ((((lo+hi)/2:Nat):Int)+1)=(((lo+hi)/2+1:Nat):Int):=fJ (n:=20000) (by omega) (by omega);simp only [zD,dT (show(lo:Int)<(hi:Int)by omega),zT,f,g,zC,aAb,d,i,yS];have q:=aPz t e d
  by_cases c:(lo+hi)/2<kLe s.Samples t
  ·rw [if_pos c,if_pos (q.2 c)]
  ·rw [if_neg c,if_neg (λh=>c (q.1 h))]
 ·intro k;simp only [zD,qD (show¬((kLe s.Samples t:Int)<(kLe s.Samples t:Int))by omega),zM]
theorem held_eq (s:Series)(t g:Int)(c:s.Samples.Pairwise λa b=>a.At<b.At)(d:s.Samples.length<=20000):Fci s t g=some (hld s t g):=by
 unfold Fci hld;have h:=kLe_le s.Samples t;simp only [zD,aWz s t c d,zC];generalize kLe s.Samples t=n at *
 cases n with
 |zero=>rfl
 |succ n=>
  have f:s.Samples[n]? =some (s.Samples[n]'(by omega)):=gE (by omega);have e:IntKind.i64.wrap (((n+1:Nat):Int)-1)=(n:Int):=by rw [Go.OB.wrap_i64 (by omega) (by omega)];omega
  simp only [qD (show¬(((n+1:Nat):Int)=0)by omega),zM,e,aAb,f,zC,Ff7,zD];generalize decide (3<=(s.Samples[n]'(by omega)).Mark)=a;generalize decide (g<IntKind.i64.wrap (t-(s.Samples[n]'(by omega)).At))=b
  cases a<;>cases b<;>rfl
structure SerD (s:Series):Prop where
 d1:1<=s.Den
 d2:s.Den<=1000000
 n:s.Samples.length<=20000
 all: ∀x∈s.Samples,aHg x
 ord:s.Samples.Pairwise λa b=>a.At<b.At
theorem fault0 {x:fE}(h:aHg x):Fcm x=some 0:=by
 have a0:=h.a0;have a1:=h.a1;have n0:=h.n0;have n1:=h.n1;have m0:=h.m0;have m1:=h.m1;have nm:=h.nm;unfold Fcm Fgu;rw [aYc,zC,aYc,zC,aYc,zC,qD (by omega),qD (by omega),qD (by omega),qD (by omega),qD (by omega),qD (by omega)];show(gB (gG (decide (x.N≠0)) _) _)=_;rw [zD];by_cases c:x.N=0;rw [c];rfl;rw [dT c,zT,zD,zC,dT (nm c)];rfl
theorem check5 {s:Series} (h:SerD s):Fcq s=some 0:=by
 have e:=h.n;have d1:=h.d1;have d2:=h.d2;unfold Fcq Fhg;rw [aYc,zC,qD (by omega),qD (by omega),show(false||false)=false from rfl,zM,zD,zD,qD (by omega),zM,yH];have b:Fgr s (λ_=>some (-1,0)) 0=some (-1,0):=by
  unfold Fgr;refine yR (λi=>(i:Int)) s.Samples.length (by omega) rfl (λk i hi=>?_) (λk=>by simp only [zD,yE,zM]);have a:s.Samples[i]? =some s.Samples[i]:=gE hi;simp only [zD,yD hi,zT,yO a,zC,fault0 (h.all _ (List.getElem_mem hi)),show decide ((0:Int)≠0)=false from rfl,zM]
  by_cases c:0<i
  ·rw [dT (show(0:Int)<(i:Int)by omega),zT,aIv a (by omega) c,zC];have d:s.Samples[i-1]? =some (s.Samples[i-1]'(by omega)):=gE (by omega);rw [d];have:=(List.pairwise_iff_getElem.1 h.ord) (i-1) i (by omega) hi (by omega);show gB (some (decide (s.Samples[i].At<=(s.Samples[i-1]'(by omega)).At))) _=_;rw [qD (by omega),zC,zM,fJ hi (by omega)]
  ·rw [qD (show¬(0:Int)<(i:Int)by omega),zM,zC,zM,fJ hi (by omega)]
 rw [b,zC]
structure TrOk (l:List Track):Prop where
 n:l.length<=30
 nm: ∀t∈l,aGl t.Name=true
 u:l.Pairwise λa b=>a.Name≠b.Name
 sr: ∀t∈l,SerD t.Series
 g: ∀t∈l,0<=t.Long/\t.Long<=1099511627776
theorem nmL {s:Str}(h:aGl s=true):s.length<=30:=by
 unfold aGl at h;simp only [Bool.and_eq_true,decide_eq_true_eq]at h;exact h.1.1.1
theorem name_ok {s:Str}(h:aGl s=true):okS s:=by
 have:=nmL h;unfold okS;omega
theorem out6 (n a b:Int):Fb1 n a b=some (decide (n<a)||decide (b<n)):=by
 unfold Fb1;simp only [zD,zC,xM]
theorem aQr {l:List Track}(h:TrOk l):Fa9 l=some 0:=by
 have m:=h.n;unfold Fa9;rw [zD,zD,qD (by omega),zM,yH];unfold Fjj;refine yR (λi=>(i:Int)) l.length (by omega) rfl (λk i hi=>?_) (λk=>by simp only [zD,yE,zM]);have d:l[i]? =some l[i]:=gE hi;have hm:=List.getElem_mem hi;have o:=h.g _ hm;simp only [zD,yD hi,zT,yO d,zC,aKs _ (name_ok (h.nm _ hm)),h.nm _ hm,Bool.not_true,zM,yH];have e: ∀b:Unit->Option Int,Fen l (i:Int) b 0=b ():=by
  intro b;unfold Fen;refine yR (λj=>(j:Int)) i (by omega) rfl (λk j f=>?_) (λk=>by simp only [zD,yE,zM]);have a:j<l.length:=by omega
  have c:l[j]? =some l[j]:=gE a;have:=(List.pairwise_iff_getElem.1 h.u) j i a hi f;simp only [zD,dT (show(j:Int)<(i:Int)by omega),zT,yO c,yO d,zC,qD this,zM,fJ a (by omega)]
 rw [e,check5 (h.sr _ hm),zC,show decide ((0:Int)≠0)=false from rfl,zM,out6,zC,qD (by omega),qD (by omega),show(false||false)=false from rfl,zM,fJ hi (by omega)]
def inT (n:Int)(x:Track):nK:=let h:=hld x.Series (64*n+63) x.Long;nK.mk h.1.N h.2
theorem time_eq {n:Int}(a:0<=n)(h1:n<=4194303):IntKind.i64.wrap (IntKind.i64.wrap (IntKind.i64.wrap (64*n)+64)-1)=64*n+63:=by
 rw [Go.OB.wrap_i64 (n:=64*n) (by omega) (by omega),Go.OB.wrap_i64 (n:=64*n+64) (by omega) (by omega),Go.OB.wrap_i64 (by omega) (by omega)];omega
theorem aZk {l:List Track}(h:TrOk l){n:Int}(c:0<=n)(h1:n<=4194303):Fb5 l n=some (l.map (inT n),0):=by
 have e:=h.n;unfold Fb5 Ffr;rw [aQr h,zC,zD,show decide ((0:Int)≠0)=false from rfl,zM,out6,zC,qD (by omega),qD (by omega),show(false||false)=false from rfl,zM];have d:Fgz l n ([],0)=some (l.map (inT n)):=by
  unfold Fgz;refine yR (λi=>((l.take i).map (inT n),(i:Int))) l.length (by omega) rfl (λk i hi=>?_) (λk=>by simp only [zD,yE,zM,List.take_length]);have a:l[i]? =some l[i]:=gE hi;have b:=h.sr _ (List.getElem_mem hi);simp only [zD,yD hi,zT,yO a,zC,time_eq c h1,held_eq _ _ _ b.ord b.n];rw [aK (by rw [List.length_map,List.length_take,List.length_singleton];omega) (by decide),zC,fJ hi (by omega),bD a,List.map_append,List.map_singleton];rfl
 rw [d,zC,zC]
theorem aGh {a σ:Type}{f g:σ->a->σ}: ∀{l:List a}{s:σ},(∀x∈l,∀s,f s x=g s x)->l.foldl f s=l.foldl g s
 | [],_,_=>rfl
 |x::l,s,h=>by
  rw [List.foldl_cons,List.foldl_cons,h x (List.mem_cons_self ..)];exact aGh λy b=>h y (List.mem_cons_of_mem _ b)
theorem aZd {a:Type}{p q:a->Bool}: ∀{l:List a},(∀x∈l,p x=q x)->l.any p=l.any q
 | [],_=>rfl
 |x::l,h=>by
  rw [List.any_cons,List.any_cons,h x (List.mem_cons_self ..),aZd λy b=>h y (List.mem_cons_of_mem _ b)]
structure aTv (r q:gW)(k:Int):Prop where
 f:frN r k=frN q k
 s:stN r k=stN q k
theorem smp_mem {m:Map}{p:Param}{R R':Int->gW}{base:Int}{l:List fG}(h: ∀x∈l,aTv (R (base+x.Frame)) (R' (base+x.Frame)) x.Word/\aTv (R (base+x.Frame)) (R' (base+x.Frame)) 3):aLf m p R base l=aLf m p R' base l:=by
 have b:loM R base l=loM R' base l:=by
  unfold loM;exact aGh λx a s=>by rw [(h x a).1.s,(h x a).2.s]
 have c:badM m.Version R base l=badM m.Version R' base l:=by
  unfold badM;exact aZd λx a=>by rw [(h x a).2.f]
 have d:uP R base l=uP R' base l:=by
  unfold uP;exact aGh λx a s=>by unfold vst;rw [(h x a).1.f]
 unfold aLf;rw [b,c,d]
theorem kept_w (s:List (gV×Bool)) (r:gW) {k:Nat} (hk:k<64):(kS s r.Number k=true->aTv (jP s r) r (k:Int))/\(kS s r.Number k=false->stN (jP s r) (k:Int)=0):=by
 refine⟨λh=>⟨?_,?_⟩,λh=>?_⟩;show((vI (kS s r.Number) r.Frame mO).l.getD (k:Int).toNat 0).toNat=_;rw [Int.toNat_natCast,aAm _ _ _ hk,if_pos h];rfl;show(vI (kS s r.Number) r.States mO).l.getD (k:Int).toNat 0=_;rw [Int.toNat_natCast,aAm _ _ _ hk,if_pos h];rfl;show(vI (kS s r.Number) r.States mO).l.getD (k:Int).toNat 0=_;rw [Int.toNat_natCast,aAm _ _ _ hk,if_neg (by rw [h];decide),aYw hk]
theorem stN_zero (k:Int):stN rO k=0:=by
 show(List.replicate 64 (0:Int)).getD k.toNat 0=0;rw [List.getD_eq_getElem?_getD,List.getElem?_replicate];split<;>rfl
theorem kept_at {l:List gW} (d:Srt l) (s:List (gV×Bool)) (n:Int) {k:Nat} (hk:k<64):(kS s n k=true->aTv (dW (l.map (jP s)) n) (dW l n) (k:Int))/\(kS s n k=false->stN (dW (l.map (jP s)) n) (k:Int)=0):=by
 rw [aXf d (jP s) (λ_=>rfl)];by_cases c: ∃r∈l,r.Number=n;rw [if_pos c];obtain⟨r,b,a⟩:=c;rw [mD d b a];have:=kept_w s r hk;rw [a]at this;exact this;rw [if_neg c,pU λr b a=>c ⟨r,b,a⟩];exact⟨λ_=>⟨rfl,rfl⟩,λ_=>stN_zero _⟩
theorem app_rng {c:fB} (h:aNr c) {v:Int} (b:(aQd c v).2=true): -1125899906842624<=(aQd c v).1/\(aQd c v).1<=1125899906842624:=by
 have e:=h.rg;unfold qG at e;simp only [Bool.or_eq_false_iff,pF,decide_eq_false_iff_not]at e;have:=aOb c v;rcases aO (aRv c v) c.Lines 0 with ⟨_,x,_,-,a,d⟩|⟨-,d⟩
 ·rw [d]at this;unfold aRv at a;split at a
  ·simp only [Option.some.injEq]at a;rw [this]at a;simp only [Option.some.injEq]at a;split at a
   ·rw [<-a]at b;cases b
   ·rename_i c2;rw [<-a];have:=pF.1 (by simpa using c2:dH (aBv x v) c.Low c.High=false);exact⟨by show _<=aBv x v;omega,by show aBv x v<=_;omega⟩
  ·cases a
 ·rw [d]at this;simp only [Option.some.injEq]at this;rw [<-this]at b;cases b
theorem cal_smp {c:fB} (h:aNr c) {x:fE} (a:aHg x):aHg (vO c x):=by
 unfold vO;split;split;rename_i h1 b;have:=app_rng h b;exact⟨a.a0,a.a1,this.1,this.2,a.m0,a.m1,λ_=>h1⟩;exact⟨a.a0,a.a1,by show(_:Int)<=0;decide,by show(0:Int)<=_;decide,by show(0:Int)<=1;decide,by show(1:Int)<=4;decide,λe=>absurd rfl e⟩;exact a
theorem cal_at (c:fB)(x:fE):(vO c x).At=x.At:=by
 unfold vO;split;split<;>rfl;rfl
theorem meant_ok {c:fB} (h:aNr c) {s:Series} (d:bAg s):SerD (aLs s c):=by
 refine⟨h.d1,h.d2,?_,λ_ e=>?_,?_⟩;show(s.Samples.map (vO c)).length<=_;rw [List.length_map];exact d.n;obtain⟨y,f,rfl⟩:=List.mem_map.1 e;exact cal_smp h (d.all y f);show(s.Samples.map (vO c)).Pairwise _;rw [List.pairwise_map];exact List.Pairwise.imp (λ {_ _} h=>by rw [cal_at,cal_at];exact h) d.ord
theorem aXb {b:Book}{i:Nat}{x:fD}(h:aDe b i x=0):aGl x.Track=true/\(b.Sources.take i).any (λy=>decide (y.Track=x.Track))=false/\0<=x.Long/\x.Long<=1099511627776:=by
 unfold aDe at h;split at h;cases h;rename_i c1;split at h;cases h;rename_i c2;split at h;cases h;split at h;cases h;split at h;rename_i c;exact absurd h c;split at h;cases h;rename_i c3;exact⟨by simpa using c1,by simpa using c2,pF.1 (by simpa using c3)⟩
theorem aFo {b:Book}{rs:List gW} (r:SzB b) (k:aQ b) (s:sN b=false) (h:wE b rs):TrOk (bM b rs):=by
 have f: ∀t∈bM b rs,∃(i:Nat) (x:fD),b.Sources[i]? =some x/\t=trM b rs x:=by
  intro t d;unfold bM at d;obtain⟨x,g,rfl⟩:=List.mem_map.1 d;obtain⟨i,hi,rfl⟩:=List.mem_iff_getElem.1 g;exact⟨i,_,gE hi,rfl⟩
 refine⟨by unfold bM;rw [List.length_map];exact k.sn,λt d=>?_,?_,λt d=>?_,λt d=>?_⟩
 ·obtain⟨i,x,g,rfl⟩:=f t d;exact(aXb (k.src i x g)).1
 ·unfold bM;rw [List.pairwise_map,List.pairwise_iff_getElem];intro i j hi u _ w;have:=(aXb (k.src j _ (gE u))).2.1;rw [List.any_eq_false]at this;have hm:b.Sources[i]∈b.Sources.take j:=by
   rw [List.mem_iff_getElem];exact⟨i,by rw [List.length_take];omega,by rw [List.getElem_take]⟩
  have p:b.Sources[i].Track=b.Sources[j].Track:=w;have:=this _ hm;rw [p]at this;simp at this
 ·obtain⟨i,x,g,rfl⟩:=f t d;have o:=src_ok r k s g;have a:=ser_ok (m:=b.Map) o.sz o.ck h.ok (by rw [aUe h];exact o.fit);have h1:SerD (jQ b.Map (bV b x) rs).1:=⟨by rw [a.den];decide,by rw [a.den];decide,a.n,a.all,a.ord⟩;have q:=o.mc;unfold trM;rcases hm:x.Meaning with _|⟨c,_|⟨_,_⟩⟩
  ·exact h1
  ·rw [hm]at q;exact meant_ok (cal_ok (q c (mS.2 rfl)).1) a
  ·exact h1
 ·obtain⟨i,x,g,rfl⟩:=f t d;exact(aXb (k.src i x g)).2.2
theorem tracks_p {b:Book} (d:SzB b): ∃r:List Track×Int,Fa3 b=some r/\(r.2=0->aQ b/\sN b=false/\r.1=bM b b.Rests):=by
 obtain⟨e,h1,-,g⟩:=aRp d;unfold Fa3;rw [h1,zC]
 repeat (first |rw [zD]|rw [yH]|rw [zC])
 by_cases c:e≠0
 ·rw [dT c];exact⟨([],e),rfl,λh=>absurd h c⟩
 obtain⟨a,f⟩:=g (by omega);rw [qD c,zM,all_l d a f (aGg a.rs),zC];exact⟨_,rfl,λ_=>⟨a,f,rfl⟩⟩
def RlS (P:Int->Prop)(x y:fE):Prop:=x.At=y.At/\(P x.At->x=y)
inductive RlL (P:Int->Prop):List fE->List fE->Prop
 |nil:RlL P [] []
 |cons {x y:fE}{l m:List fE}:RlS P x y->RlL P l m->RlL P (x::l) (y::m)
section
variable {P:Int->Prop}
theorem RlL.app {a b c d:List fE}(h:RlL P a b)(f:RlL P c d):RlL P (a++c) (b++d):=by
 induction h with
 |nil=>exact f
 |cons e _ g=>exact RlL.cons e g
theorem RlL.maps {a:Type}{f g:a->fE}: ∀{l:List a},(∀c∈l,RlS P (f c) (g c))->RlL P (l.map f) (l.map g)
 | [],_=>RlL.nil
 |x::_,h=>RlL.cons (h x (List.mem_cons_self ..)) (RlL.maps λc b=>h c (List.mem_cons_of_mem _ b))
theorem RlL.self (l:List fE):RlL P l l:=by
 induction l with
 |nil=>exact RlL.nil
 |cons _ l a=>exact RlL.cons ⟨rfl,λ_=>rfl⟩ a
theorem RlL.kLe {l m:List fE}(h:RlL P l m)(t:Int):kLe l t=kLe m t:=by
 induction h with
 |nil=>rfl
 | @cons _ _ l m e _ a=>
  unfold Go.Lf.kLe at a⊢;rw [List.takeWhile_cons,List.takeWhile_cons,e.1];split
  ·rw [List.length_cons,List.length_cons,a]
  ·rfl
theorem RlL.len {l m:List fE}(h:RlL P l m):l.length=m.length:=by
 induction h with
 |nil=>rfl
 |cons _ _ a=>rw [List.length_cons,List.length_cons,a]
theorem RlL.at {l m : List fE} (h : RlL P l m) : ∀ {i : Nat} {x : fE}, l[i]? = some x -> ∃ y, m[i]? = some y /\ RlS P x y := by
  induction h with
  | nil => intro i x hx; simp at hx
  | @cons a b l m e _ ih =>
    intro i x hx
    cases i with
    | zero => obtain rfl : a = x := by simpa using hx
              exact ⟨b, rfl, e⟩
    | succ i => exact ih (i := i) (by simpa using hx)
theorem aRi (c:fB)(x:fE):(vO c x).At=x.At:=by
 unfold vO;split;split<;>rfl;rfl
theorem RlL.cal {l m:List fE}(h:RlL P l m)(c:fB):RlL P (l.map (vO c)) (m.map (vO c)):=by
 induction h with
 |nil=>exact RlL.nil
 | @cons _ _ l m e _ b=>exact RlL.cons ⟨by rw [aRi,aRi];exact e.1,λa=>by rw [aRi]at a;rw [e.2 a]⟩ b
end
theorem hld_rel {lo hi:Int}{s j:Series}(h:RlL (λa=>lo<=a/\a<=hi) s.Samples j.Samples)(p: ∀x∈s.Samples,0<=x.At/\x.At<=1099511627776)(q:s.Samples.Pairwise λa b=>a.At<b.At){t g:Int}(t0:0<=t)(t1:t<=hi)(t2:t<=1099511627776)(r: ∀a,0<=a->a<=t->t-a<=g->lo<=a):hld s t g=hld j t g:=by
 have e:=h.kLe t;unfold hld;rw [<-e];have hk:=λ(i:Nat) (x:fE) (d:s.Samples[i]? =some x)=>aPz t q d
 generalize kLe s.Samples t=n at hk⊢
 cases n with
 |zero=>rfl
 |succ n=>
  cases d:s.Samples[n]? with
  |none=>
   cases f:j.Samples[n]? with
   |none=>simp only [d,f]
   |some y=>
    have z:=List.getElem?_eq_none_iff.1 d;have A:=(gS.1 f).1;have o:=h.len;omega
  |some x=>
   obtain⟨y,f,u,v⟩:=h.at d;have k:=p x (qS d);have l:=(hk n x d).2 (by omega);simp only [d,f]
   by_cases c:lo<=x.At
   ·rw [v ⟨c,by omega⟩]
   ·have m:g<t-x.At:=by
     by_cases c2:t-x.At<=g
     ·exact absurd (r x.At k.1 l c2) c
     ·omega
    have w:IntKind.i64.wrap (t-x.At)=t-x.At:=wrap_i64 (by omega) (by omega);rw [<-u,w,dT m,Bool.or_true,Bool.or_true,if_pos rfl,if_pos rfl]
theorem smp_rel {rs:List gW}(g:wB rs)(m:Map)(p:Param)(s:List (gV×Bool))(base:Int){c:Cell}(e: ∀x∈c.Places,aGa x)(hk: ∀w∈dG c.Places base,aI s w false=true):bJ m p (rs.map (jP s)) base c=bJ m p rs base c:=by
 unfold bJ;have a: ∀(n:Int) (k:Nat),k<64->aI s (gV.mk n (k:Int)) false=true->aTv (dW (rs.map (jP s)) n) (dW rs n) (k:Int):=λn k hk h=>(kept_at g.srt s n hk).1 h;rw [smp_mem (R':=dW rs)];intro x b;have w0:=(e x b).w0;have w1:=(e x b).w1;obtain⟨k,d⟩: ∃k:Nat,x.Word=(k:Int):=⟨x.Word.toNat,by omega⟩;have h1:=hk (gV.mk (base+x.Frame) 3) ((aS c.Places base _).2 ⟨x,b,.inl rfl⟩);have f:=hk (gV.mk (base+x.Frame) x.Word) ((aS c.Places base _).2 ⟨x,b,.inr rfl⟩);rw [d]at f⊢;exact⟨a _ k (by omega) f,a _ 3 (by decide) h1⟩
theorem aTb {P:Int->Prop}{rs:List gW}(a:wB rs)(m:Map){p:Param}(b:qR p)(s:List (gV×Bool))(n0:Int): ∀k:Nat,(∀j:Nat,j<k-> ∀c∈gU p 0,P (bK p ((n0+(j:Int))*16) c)-> ∀w∈dG c.Places ((n0+(j:Int))*16),aI s w false=true)->RlL P (kZ m p (rs.map (jP s)) (gU p 0) n0 k) (kZ m p rs (gU p 0) n0 k)
 |0,_=>RlL.nil
 |k+1,h=>by
  rw [aCj,aCj];refine(aTb a m b s n0 k λj f=>h j (by omega)).app (RlL.maps λc d=>⟨rfl,λe=>?_⟩);exact smp_rel a m p s _ (jC b d).2.1 (h k (by omega) c d e)
theorem tr_rel {P:Int->Prop}{b:Book} (g:wB b.Rests) {x:fD} (i:aJt b x) (s:List (gV×Bool))
  (h:b.Rests≠[]-> ∀k,dC b.Rests<=k->k<=dA b.Rests-> ∀c∈gU (bV b x) 0,P (bK (bV b x) (k*16) c)-> ∀w∈dG c.Places (k*16),aI s w false=true):RlL P (trM b (b.Rests.map (jP s)) x).Series.Samples (trM b b.Rests x).Series.Samples:=by
 have d:=aFx g (jP s) (λ_=>rfl) (aDj s);have a:RlL P (jQ b.Map (bV b x) (b.Rests.map (jP s))).1.Samples (jQ b.Map (bV b x) b.Rests).1.Samples:=by
  have m:kL (b.Rests.map (jP s))=kL b.Rests:=by unfold kL;rw [d.f,d.l]
  unfold jQ;rw [m,d.f,d.l]
  by_cases c:b.Rests=[]
  ·rw [if_pos (d.nil.2 c),if_pos c];exact RlL.nil
  ·rw [if_neg (λe=>c (d.nil.1 e)),if_neg c];split
   ·exact RlL.nil
   ·refine(aTb g b.Map (jI i.ck) s _ _ λ_ n=>?_).app (RlL.self _);refine h c _ (by omega) ?_;unfold kL at n;omega
 unfold trM;rcases x.Meaning with _|⟨c,_|⟨e,l⟩⟩
 ·exact a
 ·exact a.cal c
 ·exact a
end Go.Lf
