/- Laws that the claim stands on; no condition beyond those stated. -/
import Derived.Test.YtnccbhdmemheeaaGreatDoorWTa
import Derived.Test.YtnccbhdmemheeaaGreatDoorEPa
namespace Go.Lf
def win {α:Type}(f:Nat->α)(n t:Nat):List α:=((List.range t).map f).drop (t-n)
section
variable {α:Type}{f:Nat->α}{n t:Nat}
theorem wH:(win f n t).length=min n t:=by unfold win;simp;omega
theorem win_zero:win f n 0=[]:=by unfold win;simp
theorem win_snoc (h:1<=n):win f (n-1) t++[f t]=win f n (t+1):=by
 unfold win;rw [List.range_succ,List.map_append,List.drop_append_of_le_length (by simp;omega),show t-(n-1)=t+1-n by omega];rfl
theorem aLq (b:n<=t)(h:1<=n):(win f n t).tail=win f (n-1) t:=by
 unfold win;rw [List.tail_drop];congr 1;omega
theorem aHg {m:Nat}(h:t<=n)(b:t<=m):win f n t=win f m t:=by
 unfold win;rw [show t-n=0 by omega,show t-m=0 by omega]
end
theorem cntL_win {f:Nat->Int}{fr:Int}{t:Nat}(b:1<=fr):aNq fr (win f fr.toNat (t+1))=win f (fr.toNat-1) (t+1):=by
 unfold aNq;rw [wH];split;exact aLq (by omega) (by omega);exact aHg (by omega) (by omega)
structure En where
 told:Nat->List fD
 ps:Nat->List Bool
 rl:Nat->List Int
def En.m (E:En)(t:Nat):gU:=gU.mk (E.told t) (E.ps t) (E.rl t)
def En.tk (E:En)(tr:Int)(s:Nat):fD:=(at' (E.told s) tr).getD (fD.mk 0 false)
def prv (f:Nat->Int):Nat->Int
 |0=>0
 |t+1=>f t
def aEw (a b:Nat->Int):Nat->Int
 |0=>uD (a 0) (b 0) 0
 |t+1=>uD (a (t+1)) (b (t+1)) (aEw a b t)
theorem aOz (a b:Nat->Int)(t:Nat):uD (a t) (b t) (prv (aEw a b) t)=aEw a b t:=by
 cases t<;>rfl
mutual
def den (E:En):Nd->Nat->Int
 | .constant c=>λ_=>c
 | .number tr op n=>λt=>aQp (E.m t) tr op n
 | .pair a b da db op=>λt=>pairT (E.m t) a b da db op
 | .steady tr n fr _=>λt=>stT n fr (win (E.tk tr) fr.toNat (t+1))
 | .phase p=>λt=>uH (E.m t) p
 | .rule r=>λt=>aIc (E.m t) r
 | .not k=>λt=>opp (den E k t)
 | .group ks d=>λt=>(dens E ks t).foldl (vW (if d then 2 else 1) (if d then 1 else 2)) (if d then 1 else 2)
 | .count k n fr _ _=>λt=>aHd n fr (win (den E k) fr.toNat (t+1))
 | .since a b _ _=>aEw (den E a) (den E b)
 | .rises k _ _=>λt=>aEm (den E k t) (prv (den E k) t)
def dens (E:En):List Nd->Nat->List Int
 | []=>λ_=>[]
 |k::ks=>λt=>den E k t::dens E ks t
end
mutual
def ndA (E:En)(t:Nat):Nd->Nd
 | .constant c=> .constant c
 | .number tr op n=> .number tr op n
 | .pair a b da db op=> .pair a b da db op
 | .steady tr n fr _=> .steady tr n fr (win (E.tk tr) (fr.toNat-1) t)
 | .phase p=> .phase p
 | .rule r=> .rule r
 | .not k=> .not (ndA E t k)
 | .group ks d=> .group (aHi E t ks) d
 | .count k n fr _ _=> .count (ndA E t k) n fr (win (den E k) (fr.toNat-1) t) (wU (win (den E k) (fr.toNat-1) t))
 | .since a b _ _=> .since (ndA E t a) (ndA E t b) (prv (aEw (den E a) (den E b)) t) (decide (0<t))
 | .rises k _ _=> .rises (ndA E t k) (prv (den E k) t) (decide (0<t))
def aHi (E:En)(t:Nat):List Nd->List Nd
 | []=>[]
 |k::ks=>ndA E t k::aHi E t ks
end
theorem aKj (E:En)(t:Nat): ∀l,dens E l t=l.map λk=>den E k t
 | []=>by rw [dens];rfl
 |k::ks=>by rw [dens];show den E k t::dens E ks t=_;rw [aKj E t ks];rfl
theorem aGm (E:En)(t:Nat): ∀l,aHi E t l=l.map (ndA E t)
 | []=>by rw [aHi];rfl
 |k::ks=>by rw [aHi,aGm E t ks];rfl
structure MomE (E:En)(t:Nat)(P R:Nat)(m:gU):Prop where
 told:m.told=E.told t
 ps: ∀p:Int,0<=p->p<P->uH m p=uH (E.m t) p
 rl: ∀r:Int,0<=r->r<R->aIc m r=aIc (E.m t) r
mutual
theorem aFr {E:En}{t P R:Nat}{m:gU}(h:MomE E t P R m): ∀k,wfN m.told.length P R k->stp m (ndA E t k)=(den E k t,ndA E (t+1) k)
 | .constant _,_=>by rw [ndA,stp,den,ndA]
 | .number tr op n,_=>by rw [ndA,stp,den,ndA,numT_told (m':=E.m t) h.told]
 | .pair a b _ _ op,_=>by rw [ndA,stp,den,ndA,aYt (m':=E.m t) h.told]
 | .steady tr n fr l,d=>by
  rw [wfN]at d;obtain⟨i,j,_⟩:=d;obtain⟨x,q,e⟩:=aYr (m:=m) (tr:=tr) (n:=n) (fr:=fr) (last:=win (E.tk tr) (fr.toNat-1) t) i j (by rw [wH];omega);have o:x=E.tk tr t:=by unfold En.tk;rw [<-h.told,q];rfl
  have s:(win (E.tk tr) fr.toNat (t+1)).drop ((win (E.tk tr) (fr.toNat-1) t).length+2-fr.toNat)=win (E.tk tr) (fr.toNat-1) (t+1):=by
   rw [wH]
   by_cases c:fr.toNat<=t+1
   ·rw [<-aLq c (by omega),<-List.drop_one];congr 1;omega
   ·rw [show min (fr.toNat-1) t+2-fr.toNat=0 by omega,List.drop_zero];exact aHg (by omega) (by omega)
  rw [ndA,stp,den,ndA,e,o,win_snoc (by omega),s]
 | .phase p,d=>by
  rw [wfN]at d;rw [ndA,stp,den,ndA,h.ps p d.1 d.2]
 | .rule r,d=>by
  rw [wfN]at d;rw [ndA,stp,den,ndA,h.rl r d.1 d.2]
 | .not k,d=>by
  rw [wfN]at d;rw [ndA,stp,den,ndA,aFr h k d]
 | .group ks _,d=>by
  rw [wfN]at d;obtain⟨w,A⟩:=stps_A h ks d.1;rw [ndA,stp,den,ndA,w,A]
 | .count k n fr l _,d=>by
  rw [wfN]at d;obtain⟨i,j,-⟩:=d;rw [ndA,stp,den,ndA,aFr h k i];dsimp only;rw [win_snoc (by omega),cntL_win j.1]
 | .since a b l g,d=>by
  rw [wfN]at d;rw [ndA,stp,den,ndA,aFr h a d.1,aFr h b d.2.1];dsimp only;rw [aOz];simp [prv]
 | .rises k l g,d=>by
  rw [wfN]at d;rw [ndA,stp,den,ndA,aFr h k d.1];simp [prv]
theorem stps_A {E:En}{t P R:Nat}{m:gU}(h:MomE E t P R m): ∀ks,wfL m.told.length P R ks->(aNv m (aHi E t ks)).map Prod.fst=dens E ks t/\(aNv m (aHi E t ks)).map Prod.snd=aHi E (t+1) ks
 | [],_=>by rw [aHi,aNv,dens,aHi];exact⟨rfl,rfl⟩
 |k::ks,b=>by
  rw [wfL]at b;obtain⟨d,e⟩:=stps_A h ks b.2;rw [aHi,aNv,dens,aHi,List.map_cons,List.map_cons,d,e,aFr h k b.1];exact⟨rfl,rfl⟩
end
def EnW (f:Nat->List fD)(w:gY):En:=⟨f,λt=>tV (f t) (runT f w t).2,λt=>(nxt (f t) (runT f w t).2).1⟩
def mvA (E:En)(t:Nat)(x:fJ):fJ:=fJ.mk x.from_ x.to (ndA E t x.when)
theorem bAm {E:En}{t:Nat}{m:gU}(h:m.told=E.told t):MomE E t 0 0 m:=⟨h,λ_ b d=>by omega,λ_ b d=>by omega⟩
structure NewA (f:Nat->List fD)(w:gY):Prop where
 mv: ∀x∈w.moves,ndA (EnW f w) 0 x.when=x.when
 rl: ∀k∈w.rules,ndA (EnW f w) 0 k=k
theorem go_A {f:Nat->List fD}{w:gY}{T P:Nat} (e:WfW w T P) (h: ∀k,(f k).length=T) (t i:Nat) (k:Nd) (j:w.rules[i]? =some k):stp (gU.mk (f t) ((EnW f w).ps t) (((EnW f w).rl t).take i)) (ndA (EnW f w) t k)=(den (EnW f w) k t,ndA (EnW f w) (t+1) k):=by
 refine aFr (P:=P) (R:=i) ⟨rfl,λ_ b d=>?_,λ_ b d=>?_⟩ k ?_;unfold uH En.m;rfl;unfold aIc En.m;dsimp only;rw [at_take b d];show wfN (f t).length P i k;rw [h t];exact(e.ru i k j).1
theorem bAu {f:Nat->List fD}{w:gY}{T P:Nat} (d:WfW w T P) (e: ∀k,(f k).length=T) (h:NewA f w) (t:Nat):(runT f w t).2.phases=w.phases/\(runT f w t).2.moves=w.moves.map (mvA (EnW f w) t)/\(runT f w t).2.rules=w.rules.map (ndA (EnW f w) t):=by
 induction t with
 |zero=>
  refine⟨rfl,?_,?_⟩
  ·show w.moves=_
   conv=>lhs;rw [<-List.map_id w.moves]
   refine List.map_congr_left λx b=>?_
   unfold mvA;rw [h.mv x b];rfl
  ·show w.rules=_
   conv=>lhs;rw [<-List.map_id w.rules]
   exact List.map_congr_left λx b=>(h.rl x b).symm
 |succ t o=>
  obtain⟨p,r,j⟩:=o;refine⟨p,?_,?_⟩
  ·show(runT f w t).2.moves.map (mvS (mv0 (f t)))=_;rw [r,List.map_map];refine List.map_congr_left λx b=>?_
   show fJ.mk x.from_ x.to (stp (mv0 (f t)) (ndA (EnW f w) t x.when)).2=_;rw [aFr (bAm (m:=mv0 (f t)) rfl) x.when (by show wfN (f t).length 0 0 x.when;rw [e t];exact(d.mv x b).2.1)];rfl
  ·show(nxt (f t) (runT f w t).2).2.rules=_;apply List.ext_getElem?;intro i;rw [List.getElem?_map]
   cases hk:w.rules[i]? with
   |none=>
    rw [List.getElem?_eq_none_iff]at hk;rw [List.getElem?_eq_none_iff.2 (by rw [(aGl _ _).2,j,List.length_map];exact hk)];rfl
   |some k=>
    have q:(runT f w t).2.rules[i]? =some (ndA (EnW f w) t k):=by rw [j,List.getElem?_map,hk];rfl
    rw [(bAd q).2];exact congrArg some (congrArg Prod.snd (go_A d e t i k hk))
theorem rl_A {f:Nat->List fD}{w:gY}{T P:Nat}(b:WfW w T P)(d: ∀k,(f k).length=T)(h:NewA f w)(t:Nat):(EnW f w).rl t=w.rules.map λk=>den (EnW f w) k t:=by
 obtain⟨-,-,e⟩:=bAu b d h t;have j:=go_A b d t;show(nxt (f t) (runT f w t).2).1=_;apply List.ext_getElem?;intro i;rw [List.getElem?_map]
 cases hk:w.rules[i]? with
 |none=>
  rw [List.getElem?_eq_none_iff]at hk;rw [List.getElem?_eq_none_iff.2 (by rw [(aGl _ _).1,e,List.length_map];exact hk)];rfl
 |some k=>
  have q:(runT f w t).2.rules[i]? =some (ndA (EnW f w) t k):=by rw [e,List.getElem?_map,hk];rfl
  rw [(bAd q).1];exact congrArg some (congrArg Prod.fst (j i k hk))
def psB (E:En)(w:gY):Nat->List Bool
 |0=>w.possible
 |t+1=>E.ps t
theorem aSs (f:Nat->List fD)(w:gY)(t:Nat):(runT f w t).2.possible=psB (EnW f w) w t:=by
 cases t<;>rfl
theorem aRg {p:Int}{g g':fJ->fJ}(b: ∀x,(g x).from_=(g' x).from_/\(g x).to=(g' x).to)(c:fJ->Int): ∀(l:List fJ) (d:List Bool),rG p (l.map λx=>(g x,c x)) d=rG p (l.map λx=>(g' x,c x)) d
 | [],_=>rfl
 |x::l,d=>by
  rw [List.map_cons,List.map_cons,rG,rG,(b x).1,(b x).2,aRg b c l d,aRg b c l]
theorem ps_A {f:Nat->List fD}{w:gY}{T P:Nat}(h:WfW w T P)(o: ∀k,(f k).length=T)(p:NewA f w)(t:Nat):(EnW f w).ps t=wY (w.moves.map λx=>(x,den (EnW f w) x.when t)) (psB (EnW f w) w t) 0 (List.replicate P false):=by
 obtain⟨q,r,s⟩:=bAu h o p t;clear s;show tV (f t) (runT f w t).2=_;unfold tV;rw [q,r,h.ph,aSs,List.map_map,List.map_map,List.zip_map',poss_cg]
where
 poss_cg:wY (w.moves.map λx=>(((mvS (mv0 (f t)))∘mvA (EnW f w) t) x,((λx=>(stp (mv0 (f t)) x.when).1)∘mvA (EnW f w) t) x)) (psB (EnW f w) w t) 0 (List.replicate P false)=wY (w.moves.map λx=>(x,den (EnW f w) x.when t)) (psB (EnW f w) w t) 0 (List.replicate P false):=by
  have e:(w.moves.map λx=>(((mvS (mv0 (f t)))∘mvA (EnW f w) t) x,((λx=>(stp (mv0 (f t)) x.when).1)∘mvA (EnW f w) t) x))=w.moves.map λx=>(((mvS (mv0 (f t)))∘mvA (EnW f w) t) x,den (EnW f w) x.when t):=by
   refine List.map_congr_left λx u=>?_
   show(_,(stp (mv0 (f t)) (ndA (EnW f w) t x.when)).1)=_;rw [aFr (bAm (m:=mv0 (f t)) rfl) x.when (by show wfN (f t).length 0 0 x.when;rw [o t];exact(h.mv x u).2.1)]
  rw [e];have j: ∀(l:List Bool) (i:Nat) (d:List Bool),wY (w.moves.map λx=>(((mvS (mv0 (f t)))∘mvA (EnW f w) t) x,den (EnW f w) x.when t)) l i d=wY (w.moves.map λx=>(x,den (EnW f w) x.when t)) l i d:=by
   intro l
   induction l with
   |nil=>intro i d;rfl
   |cons _ l A=>
    intro i d;rw [wY,wY,A]
    congr 1
    unfold aDs;rw [aRg (g:=(mvS (mv0 (f t)))∘mvA (EnW f w) t) (g':=id) (λx=>⟨rfl,rfl⟩) (λx=>den (EnW f w) x.when t)];rfl
  exact j _ _ _
def rot {α:Type}(l:List α)(a:Nat):List α:=l.drop a++l.take a
section
variable {α:Type}{l:List α}{a:Nat}
theorem rot_cons (h:a<l.length):rot l a=l[a]::(rot l a).tail:=by
 unfold rot;rw [List.drop_eq_getElem_cons h];rfl
theorem rot_step (h:a<l.length) (x:α):rot (l.set a x) ((a+1)%l.length)=(rot l a).tail++[x]:=by
 have e:l.set a x=l.take a++x::l.drop (a+1):=List.set_eq_take_append_cons_drop.trans (if_pos h);have t:(rot l a).tail=l.drop (a+1)++l.take a:=by unfold rot;rw [List.drop_eq_getElem_cons h];rfl
 have b:(l.take a).length=a:=by rw [List.length_take];omega
 rw [t,e];unfold rot;by_cases c:a+1<l.length;rw [Nat.mod_eq_of_lt c,List.drop_append,List.take_append,b,List.drop_of_length_le (by omega:(l.take a).length<=a+1),List.take_of_length_le (by omega:(l.take a).length<=a+1),show a+1-a=1 by omega];simp;obtain d:a+1=l.length:=by omega
 rw [d,Nat.mod_self,List.drop_zero,List.take_zero,List.append_nil,List.drop_length];simp
end
structure aBv (f:Nat->Int)(n t:Nat)(ring:List Int)(a:Int):Prop where
 n1:1<=n
 len:ring.length=n
 a0:0<=a
 a1:a<n
 rt:rot ring a.toNat=List.replicate (n-t) 0++win f n t
theorem aMt {f:Nat->Int}{n:Nat}(h:1<=n):aBv f n 0 (List.replicate n 0) 0:=
 ⟨h,List.length_replicate,Int.le_refl _,by omega,by unfold rot;rw [win_zero];simp⟩
theorem aBv.at_ {f:Nat->Int}{n t:Nat}{b:List Int}{a:Int} (h:aBv f n t b a): ∃x,at' b a=some x/\rot b a.toNat=x::(rot b a.toNat).tail/\x=if t<n then 0 else f (t-n):=by
 have e:=h.len;have i:=h.a1;have d:=h.a0;have q:=rot_cons (l:=b) (a:=a.toNat) (by omega);refine⟨_,?_,q,?_⟩
 ·unfold at';rw [if_pos d];exact gE (by omega)
 ·have r:=h.rt;rw [q]at r;have n1:=h.n1;split
  ·rename_i c;rw [show n-t=(n-t-1)+1 by omega,List.replicate_succ,List.cons_append]at r;exact(List.cons.inj r).1
  ·rename_i c;rw [show n-t=0 by omega,List.replicate_zero,List.nil_append]at r;have:(win f n t)[0]? =some (f (t-n)):=by
    unfold win;rw [List.getElem?_drop,List.getElem?_map,List.getElem?_range (by omega)];simp
   rw [<-r]at this;exact oI this
theorem aBv.next {f:Nat->Int}{n t:Nat}{b:List Int}{a:Int} (h:aBv f n t b a):aBv f n (t+1) (b.set a.toNat (f t)) ((a+1)%(n:Int))/\rot (b.set a.toNat (f t)) ((a+1)%(n:Int)).toNat=(rot b a.toNat).tail++[f t]:=by
 have d:=h.len;have i:=h.a1;have j:=h.a0;have n1:=h.n1;have e:((a+1)%(n:Int)).toNat=(a.toNat+1)%b.length:=by
  rw [d];obtain⟨k,rfl⟩: ∃k:Nat,a=k:=⟨a.toNat,by omega⟩;rw [Int.toNat_natCast,<-Int.natCast_one,<-Int.natCast_add,<-Int.natCast_emod,Int.toNat_natCast]
 have s:=rot_step (l:=b) (a:=a.toNat) (by omega) (f t);rw [<-e]at s;refine⟨⟨n1,by rw [List.length_set];exact d,Int.emod_nonneg _ (by omega),Int.emod_lt_of_pos _ (by omega),?_⟩,s⟩;rw [s,h.rt]
 by_cases c:t<n
 ·rw [show n-t=(n-(t+1))+1 by omega,List.replicate_succ,List.cons_append,List.tail_cons,List.append_assoc]
  congr 1
  have q:=win_snoc (f:=f) (n:=n+1) (t:=t) (by omega);rw [Nat.add_sub_cancel]at q;rw [q,aHg (m:=n) (by omega) (by omega)]
 ·rw [show n-t=0 by omega,show n-(t+1)=0 by omega,List.replicate_zero,List.nil_append,List.nil_append,aLq (by omega) n1,win_snoc n1]
theorem cnt_rep (v:Int)(h:v≠0)(n:Nat)(l:List Int):cnt v (List.replicate n 0++l)=cnt v l:=by
 unfold cnt;rw [List.filter_append,List.filter_replicate,if_neg (by simpa using Ne.symm h),List.nil_append]
theorem aBv.cnt {f:Nat->Int}{n t:Nat}{b:List Int}{a:Int}(h:aBv f n t b a)(v:Int)(d:v≠0):Go.Lf.cnt v (rot b a.toNat)=Go.Lf.cnt v (win f n t):=by
 rw [h.rt,cnt_rep v d]
theorem nN {f:Nat->Int}{n t:Nat}(v:Int):0<=cnt v (win f n t)/\cnt v (win f n t)<=n:=by
 have:=cnt_le v (win f n t);rw [wH]at this;omega
theorem stA_known (l:List fD):(stA l).1=cnt 1 (l.map λx=>if x.Known=true then 1 else 0):=by
 suffices q: ∀(l:List fD) (s:Int×Int×Int),(l.foldl stF s).1=s.1+cnt 1 (l.map λx=>if x.Known=true then 1 else 0)by
  unfold stA;rw [q];simp
 intro l
 induction l with
 |nil=>intro s;simp [cnt]
 |cons x l b=>
  intro s;rw [List.foldl_cons,b,List.map_cons,rO];unfold stF
  by_cases c:x.Known=true
  ·rw [if_pos c,if_pos c];simp;omega
  ·rw [if_neg c,if_neg c];simp
theorem stA_bd: ∀(l:List fD),((stA l).1=0->(stA l).2.1=0/\(stA l).2.2=0/\ ∀x∈l,x.Known=false)/\((stA l).1≠0->(∀x∈l,x.Known=true->(stA l).2.1<=x.N/\x.N<=(stA l).2.2)/\(∃x∈l,x.Known=true/\x.N=(stA l).2.1)/\ ∃x∈l,x.Known=true/\x.N=(stA l).2.2):=by
 intro l
 suffices q: ∀n,∀l:List fD,l.length=n->((stA l).1=0->(stA l).2.1=0/\(stA l).2.2=0/\ ∀x∈l,x.Known=false)/\((stA l).1≠0->(∀x∈l,x.Known=true->(stA l).2.1<=x.N/\x.N<=(stA l).2.2)/\(∃x∈l,x.Known=true/\x.N=(stA l).2.1)/\ ∃x∈l,x.Known=true/\x.N=(stA l).2.2)from q _ l rfl
 intro n
 induction n with
 |zero=>
  intro l k;obtain rfl:=List.eq_nil_of_length_eq_zero k;exact⟨λ_=>⟨rfl,rfl,by simp⟩,λh=>absurd rfl h⟩
 |succ n D=>
  intro l k;obtain⟨i,x,rfl⟩: ∃i x,l=i++[x]:=⟨l.dropLast,l.getLast (by intro h;subst h;simp at k),(List.dropLast_concat_getLast _).symm⟩;obtain⟨o,i2⟩:=D i (by simpa using k);rw [aTq];have p:=aQg i (0,0,0);change 0<=(stA i).1/\_ at p;generalize stA i=s at o i2 p;obtain⟨s1,s2,G⟩:=s;simp only at o i2 p;unfold stF
  by_cases c:x.Known=true
  ·rw [if_pos c];dsimp only;refine⟨λh=>by omega,λ_=>?_⟩
   by_cases z:s1=0
   ·obtain⟨-,-,i3⟩:=o z;rw [if_pos z,if_pos z];refine⟨λy b e=>?_,⟨x,by simp,c,by omega⟩,⟨x,by simp,c,by omega⟩⟩;rcases mA.1 b with h|h
    ·rw [i3 y h]at e;cases e
    ·obtain rfl:=mS.1 h;omega
   ·obtain⟨j,⟨r,m2,u,B⟩,⟨w,m3,A,C⟩⟩:=i2 z;rw [if_neg z,if_neg z];refine⟨λy b e=>?_,?_,?_⟩
    ·rcases mA.1 b with h|h
     ·have:=j y h e;omega
     ·obtain rfl:=mS.1 h;omega
    ·by_cases d:s2<=x.N
     ·exact⟨r,List.mem_append_left _ m2,u,by omega⟩
     ·exact⟨x,by simp,c,by omega⟩
    ·by_cases d:x.N<=G
     ·exact⟨w,List.mem_append_left _ m3,A,by omega⟩
     ·exact⟨x,by simp,c,by omega⟩
  ·rw [if_neg c];have H:x.Known=false:=by simpa using c
   refine⟨λh=>?_,λh=>?_⟩
   ·obtain⟨j,I,J⟩:=o h;refine⟨j,I,λy b=>?_⟩;rcases mA.1 b with q|q
    ·exact J y q
    ·obtain rfl:=mS.1 q;exact H
   ·obtain⟨j,⟨r,m2,u,B⟩,⟨w,m3,A,C⟩⟩:=i2 h;refine⟨λy b e=>?_,⟨r,List.mem_append_left _ m2,u,B⟩,⟨w,List.mem_append_left _ m3,A,C⟩⟩;rcases mA.1 b with q|q
    ·exact j y q e
    ·obtain rfl:=mS.1 q;exact absurd e c
open Go.OB
def dcd (b no:Prop) [Decidable b] [Decidable no]:Int:=if b then 2 else if no then 1 else 0
theorem and_f: ∀(l:List Int) (o:Int),(∀x∈l,0<=x/\x<=2)->0<=o/\o<=2->l.foldl (vW 1 2) o=if o=1\/0<cnt 1 l then 1 else if o=2/\cnt 2 l=l.length then 2 else 0
 | [],o,_,b=>by
  have h:cnt 1 ([]:List Int)=0:=rfl;have i:cnt 2 ([]:List Int)=0:=rfl;rw [List.foldl_nil,h,i,List.length_nil];rcases tri b with rfl|rfl|rfl<;>simp
 |x::l,o,e,b=>by
  have j:=e x List.mem_cons_self;have k: ∀y∈l,0<=y/\y<=2:=λy p=>e y (List.mem_cons_of_mem _ p)
  have q:=cnt_le 1 l;have c2:=cnt_le 2 l;have d:0<=vW 1 2 o x/\vW 1 2 o x<=2:=by
   unfold vW
   (repeat' split)<;>omega
  rw [List.foldl_cons,and_f l _ k d,rO,rO,List.length_cons];unfold vW;rcases tri j with rfl|rfl|rfl<;>rcases tri b with rfl|rfl|rfl<;>simp only [Int.reduceEq,if_true,if_false,false_or,true_or,false_and,true_and]<;>(repeat' split)<;>omega
theorem or_f: ∀(l:List Int) (o:Int),(∀x∈l,0<=x/\x<=2)->0<=o/\o<=2->l.foldl (vW 2 1) o=if o=2\/0<cnt 2 l then 2 else if o=1/\cnt 1 l=l.length then 1 else 0
 | [],o,_,b=>by
  have h:cnt 1 ([]:List Int)=0:=rfl;have i:cnt 2 ([]:List Int)=0:=rfl;rw [List.foldl_nil,h,i,List.length_nil];rcases tri b with rfl|rfl|rfl<;>simp
 |x::l,o,e,b=>by
  have j:=e x List.mem_cons_self;have k: ∀y∈l,0<=y/\y<=2:=λy p=>e y (List.mem_cons_of_mem _ p)
  have q:=cnt_le 1 l;have c2:=cnt_le 2 l;have d:0<=vW 2 1 o x/\vW 2 1 o x<=2:=by
   unfold vW
   (repeat' split)<;>omega
  rw [List.foldl_cons,or_f l _ k d,rO,rO,List.length_cons];unfold vW;rcases tri j with rfl|rfl|rfl<;>rcases tri b with rfl|rfl|rfl<;>simp only [Int.reduceEq,if_true,if_false,false_or,true_or,false_and,true_and]<;>(repeat' split)<;>omega
theorem bBg: ∀l:List Int,cnt 2 l+cnt 1 l<=l.length
 | []=>by simp [cnt]
 |x::l=>by
  have b:=bBg l;rw [rO,rO,List.length_cons]
  (repeat' split)<;>omega
theorem and_fold {l:List Int}(h: ∀x∈l,0<=x/\x<=2):l.foldl (vW 1 2) 2=dcd (cnt 2 l=l.length) (0<cnt 1 l):=by
 have b:=cnt_le 1 l;have c2:=bBg l;rw [and_f l 2 h (by omega)];unfold dcd
 (repeat' split)<;>omega
theorem or_fold {l:List Int}(h: ∀x∈l,0<=x/\x<=2):l.foldl (vW 2 1) 1=dcd (0<cnt 2 l) (cnt 1 l=l.length):=by
 rw [or_f l 1 h (by omega)];unfold dcd
 (repeat' split)<;>omega
theorem for_cnt {f:Nat->Int}{fr:Int}{t:Nat}(h:1<=fr):aHd fr fr (win f fr.toNat t)=dcd (cnt 2 (win f fr.toNat t)=fr) (0<cnt 1 (win f fr.toNat t)):=by
 have:=nN (f:=f) (n:=fr.toNat) (t:=t) 2;unfold aHd dcd;by_cases p:cnt 2 (win f fr.toNat t)=fr;rw [if_pos (by omega),if_pos p];rw [if_neg (by omega),if_neg p,show fr-fr=0 by omega]
theorem aXr {f:Nat->Int}{fr:Int}{t:Nat} (h:1<=fr):aHd 1 fr (win f fr.toNat t)=dcd (0<cnt 2 (win f fr.toNat t)) (cnt 1 (win f fr.toNat t)=fr):=by
 have:=nN (f:=f) (n:=fr.toNat) (t:=t) 1;unfold aHd dcd;by_cases p:0<cnt 2 (win f fr.toNat t);rw [if_pos (by omega),if_pos p];rw [if_neg (by omega),if_neg p];by_cases q:cnt 1 (win f fr.toNat t)=fr;rw [if_pos (by omega),if_pos q];rw [if_neg (by omega),if_neg q]
theorem since_dcd (a b last:Int):uD a b last=dcd (b=2\/a=2/\last=2) (b=1/\(a=1\/last=1)):=rfl
theorem count_dcd (n fr:Int)(l:List Int):aHd n fr l=dcd (n<=cnt 2 l) (fr-n<cnt 1 l):=rfl
theorem aGc {α:Type}{f:Nat->α}{n t:Nat}{x:α}:x∈win f n t↔ ∃s,s<t/\t<=s+n/\f s=x:=by
 unfold win;constructor
 ·intro h;obtain⟨_,e⟩:=List.getElem?_of_mem h;rw [List.getElem?_drop,List.getElem?_map,Option.map_eq_some_iff]at e;obtain⟨s,b,i⟩:=e;have d:=(gS.1 b).1;rw [List.length_range]at d;rw [List.getElem?_range d]at b;obtain rfl:=oI b;exact⟨_,d,by omega,i⟩
 ·rintro⟨s,b,i,rfl⟩;have:((((List.range t).map f).drop (t-n))[s-(t-n)]?)=some (f s):=by
   rw [List.getElem?_drop,List.getElem?_map,show t-n+(s-(t-n))=s by omega,List.getElem?_range b];rfl
  exact qS this
section
variable {α:Type}{fr nn:α->Int}{T:Nat->fD}{val:fD->Int}{F t:Nat}{low:List α}
structure qV (fr nn:α->Int)(T:Nat->fD)(val:fD->Int)(F t:Nat)(low:List α):Prop where
 el: ∀e∈low,∃s:Nat,fr e=(s:Int)/\s<t/\t<=s+F/\(T s).Known=true/\nn e=val (T s)
 pw:low.Pairwise λa b=>fr a<fr b/\nn a<nn b
 dm: ∀s:Nat,s<t->t<=s+F->(T s).Known=true-> ∃e∈low,(s:Int)<=fr e/\nn e<=val (T s)
theorem aOr:qV fr nn T val F 0 []:=⟨λ_ h=>by simp at h,.nil,λ_ h=>by omega⟩
theorem aGh (h:qV fr nn T val F t low):low.length<=F:=by
 have b: ∀(l:List α) (a:Int),(∀e∈l,a<=fr e/\fr e<t)->l.Pairwise (λx y=>fr x<fr y/\nn x<nn y)->a<=t->(l.length:Int)<=t-a:=by
  intro l
  induction l with
  |nil=>intro a _ _ o;simp;omega
  |cons e l p=>
   intro a i d o;rw [List.pairwise_cons]at d;have j:=i e List.mem_cons_self;have:=p (fr e+1) (λx k=>⟨by have:=d.1 x k;omega,(i x (List.mem_cons_of_mem _ k)).2⟩) d.2 (by omega);rw [List.length_cons];push_cast;omega
 have q:=b low ((t:Int)-F) (λe j=>by obtain⟨_,_,_,_,_⟩:=h.el e j;omega) h.pw (by omega);omega
theorem qV.push (h:qV fr nn T val F t low) (o:(T t).Known=true) {k:Nat} (p: ∀e∈low.take k,nn e<val (T t)) (r: ∀e∈low.drop k,val (T t)<=nn e) {x:α} (d:fr x=(t:Int)/\nn x=val (T t)):qV fr nn T val (F+1) (t+1) (low.take k++[x]):=by
 refine⟨λe u=>?_,?_,λs _ _ ks=>?_⟩
 ·rcases mA.1 u with q|q
  ·obtain⟨s,i,a2,a3,a4,a5⟩:=h.el e (List.mem_of_mem_take q);exact⟨s,i,by omega,by omega,a4,a5⟩
  ·obtain rfl:=mS.1 q;exact⟨t,d.1,by omega,by omega,o,d.2⟩
 ·rw [List.pairwise_append];refine⟨h.pw.sublist (List.take_sublist _ _),List.pairwise_singleton _ _,λa j _ A=>?_⟩;obtain rfl:=mS.1 A;obtain⟨s,i,a2,_⟩:=h.el a (List.mem_of_mem_take j);exact⟨by rw [d.1,i];omega,by rw [d.2];exact p a j⟩
 ·by_cases c:s=t
  ·subst c;exact⟨x,by simp,by rw [d.1];omega,by rw [d.2];omega⟩
  ·obtain⟨e,i,a2,a3⟩:=h.dm s (by omega) (by omega) ks;rw [<-List.take_append_drop k low]at i;rcases mA.1 i with q|q
   ·exact⟨e,List.mem_append_left _ q,a2,a3⟩
   ·exact⟨x,by simp,by rw [d.1];omega,by rw [d.2];have:=r e q;omega⟩
theorem qV.skip (h:qV fr nn T val F t low) (b:(T t).Known=false):qV fr nn T val (F+1) (t+1) low:=by
 refine⟨λe d=>?_,h.pw,λs _ _ ks=>?_⟩;obtain⟨s,j,a2,a3,a4,a5⟩:=h.el e d;exact⟨s,j,by omega,by omega,a4,a5⟩;by_cases c:s=t;subst c;rw [b]at ks;cases ks;exact h.dm s (by omega) (by omega) ks
theorem qV.old (h:qV fr nn T val (F+1) t low) {j:Nat} (i: ∀e∈low.take j,fr e<(t:Int)-F) (k: ∀e∈low.drop j,(t:Int)-F<=fr e):qV fr nn T val F t (low.drop j):=by
 refine⟨λe d=>?_,h.pw.sublist (List.drop_sublist _ _),λs o _ ks=>?_⟩
 ·obtain⟨s,b,a2,a3,a4,a5⟩:=h.el e (List.mem_of_mem_drop d);have:=k e d;exact⟨s,b,a2,by omega,a4,a5⟩
 ·obtain⟨e,b,a2,a3⟩:=h.dm s o (by omega) ks;rw [<-List.take_append_drop j low]at b;rcases mA.1 b with q|q
  ·have:=i e q;omega
  ·exact⟨e,q,a2,a3⟩
theorem qV.head {e:α}{l:List α} (h:qV fr nn T val F t (e::l)):(∃x∈win T F t,x.Known=true/\val x=nn e)/\ ∀x∈win T F t,x.Known=true->nn e<=val x:=by
 refine⟨?_,λx d i=>?_⟩
 ·obtain⟨s,b,a2,a3,a4,a5⟩:=h.el e List.mem_cons_self;exact⟨T s,aGc.2 ⟨s,a2,a3,rfl⟩,a4,a5.symm⟩
 ·obtain⟨s,b,a2,rfl⟩:=aGc.1 d;obtain⟨y,j,_,k⟩:=h.dm s b a2 i;rcases List.mem_cons.1 j with rfl|q
  ·exact k
  ·have:=(List.pairwise_cons.1 h.pw).1 y q;omega
theorem qV.nil (h:qV fr nn T val F t []): ∀x∈win T F t,x.Known=false:=by
 intro x b;obtain⟨s,d,a2,rfl⟩:=aGc.1 b
 cases e:(T s).Known with
 |false=>rfl
 |true=>obtain⟨y,i,_⟩:=h.dm s d a2 e;simp at i
end
theorem stT_eq {α:Type}{fr h:α->Int}{T:Nat->fD}{F t:Nat}{low d:List α}{n:Int} (w:qV fr h T fD.N F t low) (o:qV fr (λe=> -h e) T (λx=> -x.N) F t d) (X:0<=n) (A: ∀s,-1125899906842624<=(T s).N/\(T s).N<=1125899906842624):
  (low=[]↔d=[])/\stT n (F:Int) (win T F t)=match low,d with
   |a::_,b::_=>if n<h b-h a then 1 else if (stA (win T F t)).1=F then 2 else 0
   |_,_=>if (stA (win T F t)).1=F then 2 else 0:=by
 obtain⟨B,C⟩:=stA_bd (win T F t);unfold stT
 cases low with
 |nil=>
  have z:=w.nil;have p:(stA (win T F t)).1=0:=by
   by_cases c:(stA (win T F t)).1=0
   ·exact c
   ·obtain⟨-,⟨x,m,k,-⟩,-⟩:=C c;rw [z x m]at k;cases k
  obtain⟨q,r,-⟩:=B p;have hh:d=[]:=by
   cases d with
   |nil=>rfl
   |cons b l=>obtain⟨⟨x,m,k,-⟩,-⟩:=o.head;rw [z x m]at k;cases k
  subst hh;refine⟨Iff.rfl,?_⟩;rw [q,r,if_neg (by rw [Go.OB.wrap_i64 (by omega) (by omega)];omega)]
 |cons a l=>
  obtain⟨⟨x,j,i,_⟩,H⟩:=w.head
  cases d with
  |nil=>rw [o.nil x j]at i;cases i
  |cons b _=>
   obtain⟨⟨y,D,I,_⟩,J⟩:=o.head;refine⟨by simp,?_⟩;have p:(stA (win T F t)).1≠0:=λc=>by have:=(B c).2.2 x j;rw [this]at i;cases i
   obtain⟨G,⟨u,K,O,_⟩,⟨v,mv,Q,ev⟩⟩:=C p;have q:(stA (win T F t)).2.1=h a:=by
    have R:=G x j i;have S:=H u K O;omega
   have r:(stA (win T F t)).2.2=h b:=by
    have R:=G y D I;have S:=J v mv Q;omega
   obtain⟨s1,_,_,rfl⟩:=aGc.1 j;obtain⟨s2,_,_,rfl⟩:=aGc.1 D;have r1:=A s1;have r2:=A s2;rw [q,r,Go.OB.wrap_i64 (by omega) (by omega)]
structure It where
 c:Cond
 ks:List Int
mutual
def kG (b:Nat):Cond->List It
 |⟨k,nm,d,op,n,fr,cs⟩=>(dG b cs).1++[⟨⟨k,nm,d,op,n,fr,cs⟩,(dG b cs).2⟩]
def dG (b:Nat):List Cond->List It×List Int
 | []=>([],[])
 |c::cs=>(kG b c++(dG (b+(kG b c).length) cs).1,((b+(kG b c).length-1:Nat):Int)::(dG (b+(kG b c).length) cs).2)
end
theorem aRb (b:Nat)(c:Cond):kG b c=(dG b c.Kids).1++[⟨c,(dG b c.Kids).2⟩]:=by cases c;rw [kG]
theorem aFa (b:Nat)(c:Cond):1<=(kG b c).length:=by rw [aRb];simp
theorem aDj (b:Nat)(c:Cond):(kG b c)[(kG b c).length-1]? =some ⟨c,(dG b c.Kids).2⟩:=by
 rw [aRb,List.length_append,List.length_singleton,Nat.add_sub_cancel,List.getElem?_append_right (Nat.le_refl _),Nat.sub_self];rfl
def aIn (b:Nat)(L:List It):Prop:= ∀(g:Nat) (x:It),L[g]? =some x->x.ks.length=x.c.Kids.length/\ ∀(j:Nat) (k:Int),x.ks[j]? =some k-> ∃(d:Nat) (y:It),k=((b+d:Nat):Int)/\d<g/\L[d]? =some y/\x.c.Kids[j]? =some y.c
theorem aIn.app {b:Nat}{d s:List It} (w:aIn b d) (A:aIn (b+d.length) s):aIn b (d++s):=by
 intro g x e;by_cases c:g<d.length;rw [List.getElem?_append_left c]at e;obtain⟨h,a2⟩:=w g x e;refine⟨h,λj k i=>?_⟩;obtain⟨o,y,p,u,q,r⟩:=a2 j k i;exact⟨o,y,p,u,by rw [List.getElem?_append_left (by omega)];exact q,r⟩;rw [List.getElem?_append_right (by omega)]at e;obtain⟨h,a2⟩:=A _ x e;refine⟨h,λj k i=>?_⟩;obtain⟨o,y,p,u,q,r⟩:=a2 j k i;exact⟨d.length+o,y,by rw [p];congr 1;omega,by omega,by rw [List.getElem?_append_right (by omega),Nat.add_sub_cancel_left];exact q,r⟩
mutual
theorem aRl (b:Nat): ∀c:Cond,aIn b (kG b c)
 |⟨k,nm,B,op,n,fr,cs⟩=>by
  obtain⟨q,r,s⟩:=aMb b cs;rw [kG];intro g x d
  by_cases c:g<(dG b cs).1.length
  ·rw [List.getElem?_append_left c]at d;obtain⟨u,a2⟩:=q g x d;refine⟨u,λj k h=>?_⟩;obtain⟨i,y,o,e,p,w⟩:=a2 j k h;exact⟨i,y,o,e,by rw [List.getElem?_append_left (by omega)];exact p,w⟩
  ·have A:g=(dG b cs).1.length:=by
    have:=(gS.1 d).1;rw [List.length_append,List.length_singleton]at this;omega
   subst A;rw [List.getElem?_append_right (Nat.le_refl _),Nat.sub_self]at d;obtain rfl:=oI d;refine⟨r,λj k h=>?_⟩;obtain⟨i,y,o,e,p⟩:=s j k h;have:=(gS.1 e).1;exact⟨i,y,o,this,by rw [List.getElem?_append_left this];exact e,p⟩
theorem aMb (b:Nat): ∀cs:List Cond,aIn b (dG b cs).1/\(dG b cs).2.length=cs.length/\ ∀(j:Nat) (k:Int),(dG b cs).2[j]? =some k-> ∃(e:Nat) (y:It),k=((b+e:Nat):Int)/\(dG b cs).1[e]? =some y/\cs[j]? =some y.c
 | []=>by rw [dG];exact⟨λg x h=>by simp at h,rfl,λj k d=>by simp at d⟩
 |c::cs=>by
  have i:=aRl b c;obtain⟨o,p,q⟩:=aMb (b+(kG b c).length) cs;have w:=aFa b c;rw [dG];refine⟨i.app o,by rw [List.length_cons,List.length_cons,p],λj k d=>?_⟩
  cases j with
  |zero=>
   rw [List.getElem?_cons_zero]at d;obtain rfl:=oI d;refine⟨(kG b c).length-1,⟨c,(dG b c.Kids).2⟩,by congr 1;omega,?_,?_⟩
   ·rw [List.getElem?_append_left (by omega)];exact aDj b c
   ·rfl
  |succ j=>
   rw [List.getElem?_cons_succ]at d;obtain⟨e,y,r,s,u⟩:=q j k d;exact⟨(kG b c).length+e,y,by rw [r];congr 1;omega,by rw [List.getElem?_append_right (by omega),Nat.add_sub_cancel_left];exact s,u⟩
end
mutual
theorem aFn {p:Cond->Prop}(d: ∀c x:Cond,p c->x∈c.Kids->p x)(b:Nat): ∀c:Cond,p c-> ∀x∈kG b c,p x.c
 |⟨k,nm,o,op,n,fr,cs⟩,e,x,i=>by
  rw [kG]at i;rcases mA.1 i with h|h
  ·exact aOi d b cs (λy j=>d _ y e j) x h
  ·obtain rfl:=mS.1 h;exact e
theorem aOi {p:Cond->Prop}(e: ∀c x:Cond,p c->x∈c.Kids->p x)(b:Nat): ∀cs:List Cond,(∀c∈cs,p c)-> ∀x∈(dG b cs).1,p x.c
 | [],_,x,d=>by rw [dG]at d;simp at d
 |c::cs,i,x,d=>by
  rw [dG]at d;rcases mA.1 d with h|h
  ·exact aFn e b c (i c List.mem_cons_self) x h
  ·exact aOi e _ cs (λy j=>i y (List.mem_cons_of_mem _ j)) x h
end
def bW (b:Nat):List Cond->List It
 | []=>[]
 |c::cs=>kG b c++bW (b+(kG b c).length) cs
def kJ (b:Nat):List Cond->List Int
 | []=>[]
 |c::cs=>((b+(kG b c).length-1:Nat):Int)::kJ (b+(kG b c).length) cs
theorem bAc: ∀(cs:List Cond) (b:Nat),aIn b (bW b cs)
 | [],b=>λg x d=>by simp [bW]at d
 |c::cs,b=>(aRl b c).app (bAc cs _)
theorem aWg: ∀(a cs:List Cond) (b:Nat),bW b (a++cs)=bW b a++bW (b+(bW b a).length) cs
 | [],cs,b=>by simp [bW]
 |c::a,cs,b=>by
  rw [List.cons_append,bW,bW,aWg a cs,List.append_assoc,List.length_append]
  congr 3;omega
theorem aAc: ∀(cs:List Cond) (b:Nat),(kJ b cs).length=cs.length
 | [],_=>rfl
 |c::cs,b=>by rw [kJ,List.length_cons,List.length_cons,aAc cs]
theorem aUc: ∀(cs:List Cond) (b j:Nat) (c:Cond),cs[j]? =some c-> ∃(k:Nat) (y:It),(kJ b cs)[j]? =some ((b+k:Nat):Int)/\(bW b cs)[k]? =some y/\y.c=c
 | [],b,j,c,h=>by simp at h
 |d::cs,b,0,c,h=>by
  obtain rfl:d=c:=by simpa using h
  have p:=aFa b d;refine⟨(kG b d).length-1,⟨d,(dG b d.Kids).2⟩,?_,?_,rfl⟩
  ·rw [kJ,List.getElem?_cons_zero];congr 2;omega
  ·rw [bW,List.getElem?_append_left (by omega)];exact aDj b d
 |d::cs,b,j+1,c,h=>by
  obtain⟨k,y,e,i,o⟩:=aUc cs (b+(kG b d).length) j c (by simpa using h);refine⟨(kG b d).length+k,y,?_,?_,o⟩
  ·rw [kJ,List.getElem?_cons_succ,e];congr 2;omega
  ·rw [bW,List.getElem?_append_right (by omega),Nat.add_sub_cancel_left];exact i
section
variable {α:Type}{ns:List α}{g:Nat}{x y z:α}
theorem aDh (h:g<ns.length):at' (ns.set g y) (g:Int)=some y:=by
 rw [wX,List.getElem?_set_self h]
theorem set_self (h:g<ns.length):set' ns (g:Int) y=some (ns.set g y):=by
 unfold set';rw [if_pos ⟨by omega,by omega⟩,Int.toNat_natCast]
theorem aDa (h:g<ns.length):set' (ns.set g y) (g:Int) z=some (ns.set g z):=by
 rw [set_self (by rw [List.length_set];exact h),List.set_set]
end
theorem jX (c:Cond):Cond.mk c.Kind c.Name c.Other c.Op c.N c.Frames c.Kids=c:=by cases c;rfl
theorem w8_truth {v:Int}(h:0<=v/\v<=2):IntKind.i8.wrap v=v:=by rcases tri h with rfl|rfl|rfl<;>rfl
theorem aQo (a b:Prop) [Decidable a] [Decidable b]:Faa (decide a) (decide b)=some (dcd a b):=by
 unfold Faa dcd;by_cases p:a;rw [dT p,zU,if_pos p];rw [qD p,zQ,if_neg p];by_cases q:b;rw [dT q,zU,if_pos q];rw [qD q,zQ,if_neg q]
theorem aKh {f:Nat->Int}{n t:Nat}{b:List Int}{a y:Int}(d:aBv f n t b a)(h:rot b a.toNat=y::(rot b a.toNat).tail)(v:Int)(e:v≠0):
  cnt v (win f n (t+1))=cnt v (win f n t)-(if y=v then 1 else 0)+(if f t=v then 1 else 0):=by
 obtain⟨i,j⟩:=d.next;have k:=i.cnt v e;rw [j,aRc]at k;have o:=d.cnt v e;rw [h,rO]at o;omega
theorem put_ok {ns:List gI}{g:Nat}{x:gI}{f:Nat->Int}{n t:Nat}(j:ns[g]? =some x)(b:aBv f n t x.ring x.at_)(K:x.yes=cnt 2 (win f n t))(p:x.no=cnt 1 (win f n t))(N:n<=1000000)(d: ∀s,0<=f s/\f s<=2):
  Fbh ns (g:Int) (f t)=some (ns.set g (gI.mk x.c x.kids x.rule x.now x.kid (x.ring.set x.at_.toNat (f t)) ((x.at_+1)%(n:Int)) (cnt 2 (win f n (t+1))) (cnt 1 (win f n (t+1))) x.known x.low x.high)):=by
 obtain⟨y,k,o,q⟩:=b.at_;have h:0<=y/\y<=2:=by
  rw [q];split
  ·omega
  ·exact d _
 have c2:=aKh b o 2 (by decide);have r:=aKh b o 1 (by decide);have O:=nN (f:=f) (n:=n) (t:=t) 2;have Q:=nN (f:=f) (n:=n) (t:=t) 1;have u:=nN (f:=f) (n:=n) (t:=t+1) 2;have w:=nN (f:=f) (n:=n) (t:=t+1) 1;have i:g<ns.length:=(gS.1 j).1;have A:=b.len;have B:=b.a0;have R:=b.a1;have a0:at' ns (g:Int)=some x:=yR j;have C:IntKind.i64.wrap y=y:=Go.OB.wrap_i64 (by omega) (by omega);have D:IntKind.i64.wrap (x.at_+1)=x.at_+1:=Go.OB.wrap_i64 (by omega) (by omega);have G:aHv (x.at_+1) (x.ring.length:Int)=some ((x.at_+1)%(n:Int)):=by
  unfold aHv;rw [if_neg (by omega),Int.tmod_eq_emod_of_nonneg (by omega),A]
 have H: ∀v,set' x.ring x.at_ v=some (x.ring.set x.at_.toNat v):=λv=>by unfold set';rw [if_pos ⟨B,by omega⟩]
 have I:=w8_truth (d t);have J:=d t;unfold Fbh;simp only [zI,a0,zC,k,C];generalize cnt 2 (win f n (t+1))=Y at *
 generalize cnt 1 (win f n (t+1))=Z at *
 generalize cnt 2 (win f n t)=Y0 at *
 generalize cnt 1 (win f n t)=Z0 at *
 generalize f t=v at *
 rcases tri h with e|e|e<;>subst e<;>rcases tri J with e|e|e<;>subst e<;>
  simp only [Int.reduceEq,if_true,if_false]at r c2<;>
  simp only [Int.reduceEq,decide_false,decide_true,zQ,zU,zC,aDh i,set_self i,aDa i,a0,k,I,D,G,H]<;>
  (try simp (disch:=omega) only [Go.OB.wrap_i64])<;>
  (refine congrArg some (congrArg (ns.set g) ?_);rw [gI.mk.injEq];refine⟨jX _,rfl,rfl,rfl,rfl,rfl,rfl,?_,?_,rfl,rfl,rfl⟩<;>omega)
theorem aOq (f:Int) (l:List gV) (s:l.length<=9223372036854775807):Fbf l f=some (l.dropWhile λe=>decide (e.frame<f)):=by
 have q: ∀(l:List gV) (n:Nat),l.length<n->dW (λd b=>
   gB (gJ (b.length:Int) λh=>
   gJ (decide (0<h)) λi=>
   gQ i
   (gB (at' b 0) λj=>
   gJ (decide (j.frame<f)) λk=>
   some k)
   (some false)) λo=>
   gQ o
   (gB (sub' b 1 (b.length:Int)) λp=>
   d p)
   (some b)) n l=some (l.dropWhile λe=>decide (e.frame<f)):=by
  intro l
  induction l with
  |nil=>
   intro n r;obtain⟨m,rfl⟩: ∃m,n=m+1:=⟨n-1,by omega⟩;rw [dW];rfl
  |cons e l u=>
   intro n r;obtain⟨m,rfl⟩: ∃m,n=m+1:=⟨n-1,by omega⟩;rw [dW];have a0:at' (e::l) 0=some e:=rfl;have s1:sub' (e::l) 1 (((e::l).length:Nat):Int)=some l:=by
    unfold sub';rw [if_pos ⟨by omega,by simp;omega,Int.le_refl _⟩];simp
   simp only [zI];rw [dT (by simp:(0:Int)<(((e::l).length:Nat):Int)),zU,a0,zC,zC];rw [List.dropWhile_cons]
   cases c:decide (e.frame<f)
   ·rw [zQ];rfl
   ·rw [zU,s1,zC];exact u m (by simp at r;omega)
 unfold Fbf Fjd fK;rw [q l FU (mM s)];rfl
def aCt {α:Type}(p:α->Bool)(l:List α):List α:=(l.reverse.dropWhile p).reverse
theorem aTz {α:Type}(p:α->Bool):aCt p []=[]:=rfl
theorem aHw {α:Type}(p:α->Bool)(l:List α)(e:α):aCt p (l++[e])=if p e=true then aCt p l else l++[e]:=by
 unfold aCt;rw [List.reverse_append,List.reverse_singleton,List.singleton_append,List.dropWhile_cons];split;rfl;simp
theorem aGx {α:Type} (p:α->Bool) (l:List α): ∃k,aCt p l=l.take k/\(∀e∈l.drop k,p e=true)/\(aCt p l=[]\/ ∃m e,aCt p l=m++[e]/\p e=false):=by
 suffices q: ∀(n:Nat) (l:List α),l.length=n-> ∃k,aCt p l=l.take k/\(∀e∈l.drop k,p e=true)/\(aCt p l=[]\/ ∃m e,aCt p l=m++[e]/\p e=false)from q _ l rfl
 intro n
 induction n with
 |zero=>
  intro l i;obtain rfl:=List.eq_nil_of_length_eq_zero i;exact⟨0,rfl,by simp,.inl rfl⟩
 |succ n u=>
  intro l i;obtain⟨b,x,rfl⟩: ∃b x,l=b++[x]:=⟨l.dropLast,l.getLast (by intro h;subst h;simp at i),(List.dropLast_concat_getLast _).symm⟩;rw [aHw];have j:b.length=n:=by simpa using i
  cases c:p x
  ·refine⟨b.length+1,?_,?_,?_⟩
   ·rw [if_neg (by simp),List.take_of_length_le (by simp)]
   ·rw [List.drop_of_length_le (by simp)];simp
   ·exact .inr ⟨b,x,by simp,c⟩
  ·obtain⟨k,o,w,r⟩:=u b j;rw [if_pos rfl]
   by_cases s:k<=b.length
   ·refine⟨k,by rw [o,List.take_append_of_le_length s],?_,r⟩;intro e d;rw [List.drop_append_of_le_length s]at d;rcases mA.1 d with q|q
    ·exact w e q
    ·obtain rfl:=mS.1 q;exact c
   ·refine⟨b.length,by rw [o,List.take_of_length_le (by omega),List.take_left' rfl],?_,r⟩;intro e d;rw [List.drop_left' rfl]at d;obtain rfl:=mS.1 d;exact c
def aVi (x:gI)(l:List gV):gI:=gI.mk x.c x.kids x.rule x.now x.kid x.ring x.at_ x.yes x.no x.known l x.high
def aIg (x:gI)(l:List gV):gI:=gI.mk x.c x.kids x.rule x.now x.kid x.ring x.at_ x.yes x.no x.known x.low l
theorem aMl {α:Type}{ns:List α}{g:Nat}{x:α}(h:ns[g]? =some x):ns.set g x=ns:=by
 obtain⟨b,d⟩:=gS.1 h;rw [<-d];exact List.set_getElem_self b
theorem last_at {α:Type}(l:List α)(e:α)(h:l.length<=1000000):at' (l++[e]) (IntKind.i64.wrap (((l++[e]).length:Int)-1))=some e/\sub' (l++[e]) 0 (IntKind.i64.wrap (((l++[e]).length:Int)-1))=some l:=by
 have w:IntKind.i64.wrap (((l++[e]).length:Int)-1)=(l.length:Int):=by
  rw [List.length_append,List.length_singleton,Go.OB.wrap_i64 (by omega) (by omega)];omega
 rw [w];refine⟨by rw [wX,List.getElem?_append_right (Nat.le_refl _),Nat.sub_self];rfl,?_⟩;unfold sub';rw [if_pos ⟨by omega,by omega,by simp;omega⟩];simp
theorem popL_ok {ns:List gI}{g:Nat}{x:gI} (d:ns[g]? =some x) (v:fD) (r:x.low.length<=1000000):
  Fef (g:Int) v ns=some (ns.set g (aVi x (aCt (λe=>decide (v.N<=e.n)) x.low))):=by
 have H:g<ns.length:=(gS.1 d).1;unfold Fef fK;have s:x.low.length<FU:=mM (by omega)
 revert s
 generalize FU=n
 suffices q: ∀(m n:Nat) (l:List gV),l.length=m->m<=1000000->m<n-> ∀ns:List gI,ns[g]? =some (aVi x l)->dW _ n ns=some (ns.set g (aVi x (aCt (λe=>decide (v.N<=e.n)) l)))from λu=>q x.low.length n x.low rfl r u ns d
 intro m
 induction m with
 |zero=>
  intro n l o w A ns d;obtain⟨k,rfl⟩: ∃k,n=k+1:=⟨n-1,by omega⟩;obtain rfl:=List.eq_nil_of_length_eq_zero o;have a0:at' ns (g:Int)=some (aVi x []):=yR d;rw [dW];simp only [zI,a0,zC];rw [aTz,aMl d];rfl
 |succ m B=>
  intro n l o w A ns d;obtain⟨k,rfl⟩: ∃k,n=k+1:=⟨n-1,by omega⟩;obtain⟨b,e,rfl⟩: ∃b e,l=b++[e]:=⟨l.dropLast,l.getLast (by intro h;subst h;simp at o),(List.dropLast_concat_getLast _).symm⟩;have p:b.length=m:=by simpa using o
  have i:g<ns.length:=(gS.1 d).1;have a0:at' ns (g:Int)=some (aVi x (b++[e])):=yR d;obtain⟨C,a2⟩:=last_at b e (by omega);have D:decide ((0:Int)<((b++[e]).length:Int))=true:=dT (by simp);have G:(aVi x (b++[e])).low=b++[e]:=rfl;rw [dW,aHw];simp only [zI,a0,zC,G,D,zU,C,a2]
  cases c:decide (v.N<=e.n)
  ·rw [zQ,if_neg (by simp),aMl d]
  ·rw [zU,set_self i,zC,if_pos rfl];have j:=B k b p (by omega) (by omega) (ns.set g (aVi x b)) (List.getElem?_set_self i);rw [List.set_set]at j;rw [<-j]
   congr 2
   show gI.mk (Cond.mk x.c.Kind x.c.Name x.c.Other x.c.Op x.c.N x.c.Frames x.c.Kids) _ _ _ _ _ _ _ _ _ _ _=_;rw [jX];rfl
theorem popH_ok {ns:List gI}{g:Nat}{x:gI} (d:ns[g]? =some x) (v:fD) (r:x.high.length<=1000000):
  Fec (g:Int) v ns=some (ns.set g (aIg x (aCt (λe=>decide (e.n<=v.N)) x.high))):=by
 have H:g<ns.length:=(gS.1 d).1;unfold Fec fK;have s:x.high.length<FU:=mM (by omega)
 revert s
 generalize FU=n
 suffices q: ∀(m n:Nat) (l:List gV),l.length=m->m<=1000000->m<n-> ∀ns:List gI,ns[g]? =some (aIg x l)->dW _ n ns=some (ns.set g (aIg x (aCt (λe=>decide (e.n<=v.N)) l)))from λu=>q x.high.length n x.high rfl r u ns d
 intro m
 induction m with
 |zero=>
  intro n l o w A ns d;obtain⟨k,rfl⟩: ∃k,n=k+1:=⟨n-1,by omega⟩;obtain rfl:=List.eq_nil_of_length_eq_zero o;have a0:at' ns (g:Int)=some (aIg x []):=yR d;rw [dW];simp only [zI,a0,zC];rw [aTz,aMl d];rfl
 |succ m B=>
  intro n l o w A ns d;obtain⟨k,rfl⟩: ∃k,n=k+1:=⟨n-1,by omega⟩;obtain⟨b,e,rfl⟩: ∃b e,l=b++[e]:=⟨l.dropLast,l.getLast (by intro h;subst h;simp at o),(List.dropLast_concat_getLast _).symm⟩;have p:b.length=m:=by simpa using o
  have i:g<ns.length:=(gS.1 d).1;have a0:at' ns (g:Int)=some (aIg x (b++[e])):=yR d;obtain⟨C,a2⟩:=last_at b e (by omega);have D:decide ((0:Int)<((b++[e]).length:Int))=true:=dT (by simp);have G:(aIg x (b++[e])).high=b++[e]:=rfl;rw [dW,aHw];simp only [zI,a0,zC,G,D,zU,C,a2]
  cases c:decide (e.n<=v.N)
  ·rw [zQ,if_neg (by simp),aMl d]
  ·rw [zU,set_self i,zC,if_pos rfl];have j:=B k b p (by omega) (by omega) (ns.set g (aIg x b)) (List.getElem?_set_self i);rw [List.set_set]at j;rw [<-j]
   congr 2
   show gI.mk (Cond.mk x.c.Kind x.c.Name x.c.Other x.c.Op x.c.N x.c.Frames x.c.Kids) _ _ _ _ _ _ _ _ _ _ _=_;rw [jX];rfl
def knF (T:Nat->fD)(s:Nat):Int:=if (T s).Known=true then 1 else 0
structure aFs (T:Nat->fD)(F t:Nat)(x:gI):Prop where
 rg:aBv (knF T) F t x.ring x.at_
 kn:x.known=cnt 1 (win (knF T) F t)
 lo:qV gV.frame gV.n T fD.N F t x.low
 hi:qV gV.frame (λe=> -e.n) T (λx=> -x.N) F t x.high
theorem ap16e (l:List gV)(e:gV)(h:l.length<=2000000):app' 16 l [e]=some (l++[e]):=by
 unfold app';rw [if_pos];constructor;simp [maxLen];omega;simp;omega
theorem pop_lo {T:Nat->fD}{F t:Nat}{l:List gV} (h:qV gV.frame gV.n T fD.N F t l) (o:(T t).Known=true):qV gV.frame gV.n T fD.N (F+1) (t+1) (aCt (λe=>decide ((T t).N<=e.n)) l++[⟨(t:Int),(T t).N⟩]):=by
 obtain⟨k,j,p,d⟩:=aGx (λe:gV=>decide ((T t).N<=e.n)) l;rw [j];refine h.push o (λe b=>?_) (λe b=>of_decide_eq_true (p e b)) ⟨rfl,rfl⟩;have i:=h.pw.sublist (List.take_sublist k l);rw [<-j]at i b;rcases d with d|⟨m,z,d,r⟩
 ·rw [d]at b;cases b
 ·rw [d]at i b;have s:z.n<(T t).N:=by have:=of_decide_eq_false r;omega
  rcases mA.1 b with q|q
  ·have:=((List.pairwise_append.1 i).2.2 e q z (by simp)).2;omega
  ·obtain rfl:=mS.1 q;exact s
theorem pop_hi {T:Nat->fD}{F t:Nat}{l:List gV} (h:qV gV.frame (λe=> -e.n) T (λx=> -x.N) F t l) (o:(T t).Known=true):qV gV.frame (λe=> -e.n) T (λx=> -x.N) (F+1) (t+1) (aCt (λe=>decide (e.n<=(T t).N)) l++[⟨(t:Int),(T t).N⟩]):=by
 obtain⟨k,j,p,d⟩:=aGx (λe:gV=>decide (e.n<=(T t).N)) l;rw [j];refine h.push o (λe b=>?_) (λe b=>by have:=of_decide_eq_true (p e b);omega) ⟨rfl,rfl⟩;have i:=h.pw.sublist (List.take_sublist k l);rw [<-j]at i b;rcases d with d|⟨m,z,d,r⟩
 ·rw [d]at b;cases b
 ·rw [d]at i b;have s:(T t).N<z.n:=by have:=of_decide_eq_false r;omega
  rcases mA.1 b with q|q
  ·have:=((List.pairwise_append.1 i).2.2 e q z (by simp)).2;omega
  ·obtain rfl:=mS.1 q;omega
theorem aWe {α:Type}(p:α->Bool)(l:List α):(aCt p l).length<=l.length:=by
 obtain⟨_,b,-⟩:=aGx p l;rw [b,List.length_take];omega
theorem tw_mem {α:Type}{p:α->Bool}: ∀{l:List α}{e:α},e∈l.takeWhile p->p e=true
 | [],e,h=>by simp at h
 |x::l,e,h=>by
  rw [List.takeWhile_cons]at h
  cases c:p x
  ·rw [c]at h;simp at h
  ·rw [c]at h;rcases List.mem_cons.1 h with rfl|q
   ·exact c
   ·exact tw_mem q
theorem dw_head {α:Type}{p:α->Bool}: ∀{l:List α}{z:α}{m:List α},l.dropWhile p=z::m->p z=false
 | [],z,m,h=>by simp at h
 |x::l,z,m,h=>by
  rw [List.dropWhile_cons]at h
  cases c:p x
  ·rw [c]at h;obtain rfl:=(List.cons.inj h).1;exact c
  ·rw [c]at h;exact dw_head h
theorem aQw {nn:gV->Int}{T:Nat->fD}{val:fD->Int}{F t:Nat}{l:List gV} (h:qV gV.frame nn T val (F+1) t l):qV gV.frame nn T val F t (l.dropWhile λe=>decide (e.frame<(t:Int)-F)):=by
 have i:l.takeWhile (λe=>decide (e.frame<(t:Int)-F))++l.dropWhile (λe=>decide (e.frame<(t:Int)-F))=l:=List.takeWhile_append_dropWhile;generalize ha:l.takeWhile (λe=>decide (e.frame<(t:Int)-F))=a at i;generalize hb:l.dropWhile (λe=>decide (e.frame<(t:Int)-F))=b at i;subst i;have q:=h.old (j:=a.length) (λe d=>?_) (λe d=>?_)
 ·rw [List.drop_left' rfl]at q;exact q
 ·rw [List.take_left' rfl]at d;rw [<-ha]at d;have:=tw_mem d;exact of_decide_eq_true this
 ·rw [List.drop_left' rfl]at d
  cases b with
  |nil=>cases d
  |cons z m=>
   have k: ¬z.frame<(t:Int)-F:=by
    have:=dw_head hb;exact of_decide_eq_false this
   rcases List.mem_cons.1 d with rfl|hm
   ·omega
   ·have:=((List.pairwise_cons.1 (List.pairwise_append.1 h.pw).2.1).1 e hm).1;omega
def stMid (A:gG)(B:Int)(e:fD)(b:gI)(i:Int):Option (List gI):=
 gQ e.Known
 (gJ (IntKind.i64.wrap (i+1)) λj=>
 gB (gB (set' b.ring b.at_ 1) λk=>
 gB (set' A.nodes B (gI.mk (Cond.mk b.c.Kind b.c.Name b.c.Other b.c.Op b.c.N b.c.Frames b.c.Kids) b.kids b.rule b.now b.kid k b.at_ b.yes b.no j b.low b.high)) λo=>
 Fef B e o) λp=>
 gB (Fec B e p) λh=>
 gB (at' h B) λd=>
 gJ ([gV.mk A.frames e.N]:List gV) λ_=>
 gJ ([gV.mk A.frames e.N]:List gV) λ_=>
 gB (app' 16 d.low ([gV.mk A.frames e.N]:List gV)) λq=>
 gB (app' 16 d.high ([gV.mk A.frames e.N]:List gV)) λr=>
 gB (set' h B (gI.mk (Cond.mk d.c.Kind d.c.Name d.c.Other d.c.Op d.c.N d.c.Frames d.c.Kids) d.kids d.rule d.now d.kid d.ring d.at_ d.yes d.no d.known q r)) λs=>
 some s)
 (gB (set' b.ring b.at_ 0) λu=>
 gB (set' A.nodes B (gI.mk (Cond.mk b.c.Kind b.c.Name b.c.Other b.c.Op b.c.N b.c.Frames b.c.Kids) b.kids b.rule b.now b.kid u b.at_ b.yes b.no i b.low b.high)) λw=>
 some w)
def aZl (Q:gG)(O:Int)(h:List gI):Option (Int×List gI):=
 gB (at' h O) λb=>
 gJ (IntKind.i64.wrap (b.at_+1)) λo=>
 gJ (b.ring.length:Int) λp=>
 gB (aHv o p) λj=>
 gJ (IntKind.i64.wrap (Q.frames-b.c.Frames)) λq=>
 gJ (IntKind.i64.wrap (q+1)) λr=>
 gJ (IntKind.i64.wrap (Q.frames-b.c.Frames)) λs=>
 gJ (IntKind.i64.wrap (s+1)) λu=>
 gB (Fbf b.low r) λd=>
 gB (Fbf b.high u) λi=>
 gB (gJ (d.length:Int) λw=>
 gJ (decide (0<w)) λA=>
 gQ A
 (gB (at' i 0) λB=>
 gB (at' d 0) λC=>
 gJ (IntKind.i64.wrap (B.n-C.n)) λD=>
 gJ (decide (b.c.N<D)) λG=>
 gB (set' h O (gI.mk (Cond.mk b.c.Kind b.c.Name b.c.Other b.c.Op b.c.N b.c.Frames b.c.Kids) b.kids b.rule b.now b.kid b.ring j b.yes b.no b.known d i)) λH=>
 some (G,H))
 (gB (set' h O (gI.mk (Cond.mk b.c.Kind b.c.Name b.c.Other b.c.Op b.c.N b.c.Frames b.c.Kids) b.kids b.rule b.now b.kid b.ring j b.yes b.no b.known d i)) λI=>
 some (false,I))) λ⟨J,e⟩=>
 gQ J
 (some (1,e))
 (gB (at' e O) λk=>
 gJ (decide (k.known=k.c.Frames)) λK=>
 gQ K
 (some (2,e))
 (some (0,e)))
theorem aZh (v:gG)(q:Int):Fdk v q=gB (at' v.nodes q) λe=>gB (Faf v e.c.Name) λ⟨h,_⟩=>gB (at' v.nodes q) λb=>gB (at' b.ring b.at_) λd=>gB (stMid v q h b (IntKind.i64.wrap (b.known-IntKind.i64.wrap d))) (aZl v q):=rfl
theorem knF_rng (T:Nat->fD)(s:Nat):0<=knF T s/\knF T s<=1:=by unfold knF;split<;>omega
theorem mid6 {v:gG}{g:Nat}{x:gI}{T:Nat->fD}{F t:Nat}{y:Int} (p:v.nodes[g]? =some x) (b:aFs T F t x) (j:v.frames=(t:Int)) (C:F<=1000000) (q:rot x.ring x.at_.toNat=y::(rot x.ring x.at_.toNat).tail) (r:0<=y/\y<=1):
  ∃lo hi,stMid v (g:Int) (T t) x (IntKind.i64.wrap (x.known-y))=some (v.nodes.set g (gI.mk x.c x.kids x.rule x.now x.kid (x.ring.set x.at_.toNat (knF T t)) x.at_ x.yes x.no (cnt 1 (win (knF T) F (t+1))) lo hi))/\
   qV gV.frame gV.n T fD.N (F+1) (t+1) lo/\qV gV.frame (λe=> -e.n) T (λx=> -x.N) (F+1) (t+1) hi:=by
 have d:g<v.nodes.length:=(gS.1 p).1;have i:=b.rg;have s:=i.a0;have D:=i.a1;have G:=i.len;have h:=aKh i q 1 (by decide);have H:=nN (f:=knF T) (n:=F) (t:=t) 1;have u:=nN (f:=knF T) (n:=F) (t:=t+1) 1;have kn:=b.kn;have l1:=aGh b.lo;have l2:=aGh b.hi;have o: ∀z,set' x.ring x.at_ z=some (x.ring.set x.at_.toNat z):=λz=>by unfold set';rw [if_pos ⟨s,by omega⟩]
 have w:IntKind.i64.wrap (x.known-y)=x.known-y:=Go.OB.wrap_i64 (by omega) (by omega);rw [w];unfold stMid
 cases hk:(T t).Known
 ·have k:knF T t=0:=by unfold knF;rw [hk];rfl
  rw [k]at h⊢;refine⟨x.low,x.high,?_,b.lo.skip hk,b.hi.skip hk⟩;rw [zQ,o,zC,set_self d,zC,jX];refine congrArg some (congrArg (v.nodes.set g) ?_);rw [gI.mk.injEq];refine⟨rfl,rfl,rfl,rfl,rfl,rfl,rfl,rfl,rfl,?_,rfl,rfl⟩;have:(if y=1 then(1:Int)else 0)=y:=by split<;>omega
  rw [this]at h;simp at h;omega
 ·have k:knF T t=1:=by unfold knF;rw [hk];rfl
  rw [k]at h⊢;have A:IntKind.i64.wrap (x.known-y+1)=x.known-y+1:=Go.OB.wrap_i64 (by omega) (by omega);have B:x.known-y+1=cnt 1 (win (knF T) F (t+1)):=by
   have:(if y=1 then(1:Int)else 0)=y:=by split<;>omega
   rw [this,if_pos rfl]at h;omega
  refine⟨_,_,?_,pop_lo b.lo hk,pop_hi b.hi hk⟩;have I:=aWe (λe:gV=>decide ((T t).N<=e.n)) x.low;have J:=aWe (λe:gV=>decide (e.n<=(T t).N)) x.high;simp only [zI];rw [zU,o,zC,set_self d,zC,A,B,jX];rw [popL_ok (List.getElem?_set_self d) (T t) (by show x.low.length<=_;omega),zC,List.set_set];rw [popH_ok (List.getElem?_set_self d) (T t) (by show x.high.length<=_;omega),zC,List.set_set,aDh d,zC];unfold aVi aIg;dsimp only;rw [ap16e _ _ (by omega),zC,ap16e _ _ (by omega),zC,aDa d,zC,jX,j]
theorem win_map {α β:Type}(h:α->β)(f:Nat->α)(n t:Nat):(win f n t).map h=win (λs=>h (f s)) n t:=by
 unfold win;rw [List.map_drop,List.map_map];rfl
theorem known_cnt (T:Nat->fD)(F t:Nat):(stA (win T F t)).1=cnt 1 (win (knF T) F t):=by
 rw [stA_known,win_map];rfl
def stN (m:gI)(F t:Nat):gI:=
 gI.mk m.c m.kids m.rule m.now m.kid m.ring ((m.at_+1)%(F:Int)) m.yes m.no m.known (m.low.dropWhile λe=>decide (e.frame<((t+1:Nat):Int)-F)) (m.high.dropWhile λe=>decide (e.frame<((t+1:Nat):Int)-F))
theorem tail_ok {v:gG}{ns:List gI}{g:Nat}{m:gI}{T:Nat->fD}{F t:Nat} (hm:ns[g]? =some m) (h:v.frames=(t:Int)) (i:m.c.Frames=(F:Int)) (Y:1<=F/\F<=1000000) (ht:t<=1000000000)
  (D:m.ring.length=F) (ha:0<=m.at_/\m.at_<(F:Int)) (G:m.known=cnt 1 (win (knF T) F (t+1))) (r:qV gV.frame gV.n T fD.N (F+1) (t+1) m.low) (u:qV gV.frame (λe=> -e.n) T (λx=> -x.N) (F+1) (t+1) m.high)
  (H:0<=m.c.N) (j: ∀s,-1125899906842624<=(T s).N/\(T s).N<=1125899906842624):
  aZl v (g:Int) ns=some (stT m.c.N (F:Int) (win T F (t+1)),ns.set g (stN m F t)):=by
 have d:g<ns.length:=(gS.1 hm).1;have a0:at' ns (g:Int)=some m:=yR hm;have I:IntKind.i64.wrap (m.at_+1)=m.at_+1:=Go.OB.wrap_i64 (by omega) (by omega);have J:aHv (m.at_+1) (m.ring.length:Int)=some ((m.at_+1)%(F:Int)):=by
  unfold aHv;rw [if_neg (by omega),Int.tmod_eq_emod_of_nonneg (by omega),D]
 have K:IntKind.i64.wrap (IntKind.i64.wrap (v.frames-m.c.Frames)+1)=((t+1:Nat):Int)-F:=by
  rw [h,i,Go.OB.wrap_i64 (n:=(t:Int)-F) (by omega) (by omega),Go.OB.wrap_i64 (by omega) (by omega)];omega
 have w:=aQw r;have A:=aQw u;have i1:=aGh r;have i2:=aGh u;have O:=aOq (((t+1:Nat):Int)-F) m.low (by omega);have Q:=aOq (((t+1:Nat):Int)-F) m.high (by omega);obtain⟨B,C⟩:=stT_eq (n:=m.c.N) w A H j;rw [known_cnt,<-G]at C;have hd: ∀e∈m.high.dropWhile (λe=>decide (e.frame<((t+1:Nat):Int)-F)),-1125899906842624<=e.n/\e.n<=1125899906842624:=λe k=>by
  obtain⟨s,-,-,-,-,q⟩:=A.el e k;have:=j s;omega
 have o: ∀e∈m.low.dropWhile (λe=>decide (e.frame<((t+1:Nat):Int)-F)),-1125899906842624<=e.n/\e.n<=1125899906842624:=λe k=>by
  obtain⟨s,-,-,-,-,q⟩:=w.el e k;have:=j s;omega
 rw [C];unfold aZl stN;simp only [zI,a0,zC,I,J,K,O,Q,jX];generalize m.low.dropWhile (λe=>decide (e.frame<((t+1:Nat):Int)-F))=L at *
 generalize m.high.dropWhile (λe=>decide (e.frame<((t+1:Nat):Int)-F))=p at *
 cases L with
 |nil=>
  obtain rfl:=B.1 rfl;rw [qD (by simp),zQ,set_self d,zC,zC];dsimp only;rw [zQ,aDh d,zC];dsimp only;rw [i,xE];split<;>rfl
 |cons a L=>
  cases p with
  |nil=>exact absurd (B.2 rfl) (by simp)
  |cons b p=>
   have r1:=hd b (by simp);have r2:=o a (by simp);have R:decide ((0:Int)<((a::L).length:Int))=true:=dT (by simp);have S:at' (b::p) 0=some b:=rfl;have X:at' (a::L) 0=some a:=rfl;rw [R,zU,S,zC,X,zC,set_self d,zC,zC,Go.OB.wrap_i64 (n:=b.n-a.n) (by omega) (by omega)];dsimp only;rw [xE];split
   ·rfl
   ·rw [aDh d,zC];dsimp only;rw [i,xE];split<;>rfl
theorem steady_ok {v:gG}{g:Nat}{x:gI}{T:Nat->fD}{F t:Nat}{d:Int}(h:v.nodes[g]? =some x)(b:aFs T F t x)(i:Faf v x.c.Name=some (T t,d))(e:v.frames=(t:Int))(k:x.c.Frames=(F:Int))(j:1<=F/\F<=1000000)(o:t<=1000000000)
  (p:0<=x.c.N)(q: ∀s,-1125899906842624<=(T s).N/\(T s).N<=1125899906842624):
  ∃z,Fdk v (g:Int)=some (stT x.c.N (F:Int) (win T F (t+1)),v.nodes.set g z)/\aFs T F (t+1) z/\z.c=x.c/\z.kids=x.kids/\z.rule=x.rule/\z.kid=x.kid:=by
 have r:g<v.nodes.length:=(gS.1 h).1;obtain⟨y,u,w,A⟩:=b.rg.at_;have B:0<=y/\y<=1:=by
  rw [A];split
  ·omega
  ·exact knF_rng T _
 obtain⟨lo,hi,m1,m2,m3⟩:=mid6 h b e j.2 w B;obtain⟨C,-⟩:=b.rg.next;have a0:at' v.nodes (g:Int)=some x:=yR h;have D:=tail_ok (v:=v) (ns:=v.nodes.set g (gI.mk x.c x.kids x.rule x.now x.kid (x.ring.set x.at_.toNat (knF T t)) x.at_ x.yes x.no (cnt 1 (win (knF T) F (t+1))) lo hi)) (List.getElem?_set_self r) e k j o (by show(x.ring.set _ _).length=F;rw [List.length_set];exact b.rg.len) ⟨b.rg.a0,b.rg.a1⟩ rfl m2 m3 p q;rw [aZh,a0,zC,i,zC];dsimp only;rw [zC,u,zC,Go.OB.wrap_i64 (n:=y) (by omega) (by omega),m1,zC,D,List.set_set];refine⟨_,rfl,⟨C,rfl,aQw m2,aQw m3⟩,rfl,rfl,rfl,rfl⟩
theorem aVg {T:Nat->fD}{F:Nat}(h:1<=F)(x:gI)(b:x.ring=List.replicate F 0)(d:x.at_=0)(e:x.known=0)(i:x.low=[])(j:x.high=[]):aFs T F 0 x:=by
 refine⟨by rw [b,d];exact aMt h,by rw [e,win_zero];rfl,by rw [i];exact aOr,by rw [j];exact aOr⟩
def sg (n:Int):Int:=if n<0 then-1 else if 0<n then 1 else 0
theorem sg_rng (n:Int): -1<=sg n/\sg n<=1:=by
 unfold sg;split;omega;split<;>omega
theorem sg_e (n:Int):Faq n=some (sg n):=by
 unfold Faq sg;simp only [zI,xE];repeat' split
 all_goals rfl
theorem sg_r (n:Int):Fap n=some (sg n):=by
 unfold Fap sg;simp only [zI,xE];repeat' split
 all_goals rfl
theorem aIh (o c:Int):Ffe o c=Fbz o c:=rfl
theorem aUa (b:Bool):Fc2 b=Fca b:=rfl
theorem abs_sg {a:Int} (h: -1125899906842624<=a/\a<=1125899906842624):IntKind.i64.wrap (a*sg a)=max a (IntKind.i64.wrap (-a)):=by
 rw [Go.OB.wrap_i64 (n:= -a) (by omega) (by omega)];unfold sg;split;rw [Go.OB.wrap_i64 (by omega) (by omega)];omega;split;rw [Go.OB.wrap_i64 (by omega) (by omega)];omega;rw [Go.OB.wrap_i64 (by omega) (by omega)];omega
theorem order_eq {a b c d:Int} (o: -1125899906842624<=a/\a<=1125899906842624) (p: -1125899906842624<=c/\c<=1125899906842624):Fdv a b c d=Fb8 a b c d:=by
 unfold Fdv Fb8;simp only [sg_e,sg_r,zC,zI]
 by_cases e:sg a=sg c
 ·have m1:=abs_sg o;have m2:=abs_sg p;rw [<-e]at m2;rw [qD (λh=>h e),zQ,zQ,m1,m2];obtain⟨⟨h,l⟩,s⟩:=aFy (IntKind.u64.wrap (max a (IntKind.i64.wrap (-a)))) (IntKind.u64.wrap d);obtain⟨⟨m,n⟩,u⟩:=aFy (IntKind.u64.wrap (max c (IntKind.i64.wrap (-c)))) (IntKind.u64.wrap b);rw [s,zC,zC];dsimp only;rw [u,zC,zC];dsimp only;have w:=sg_rng a;have i:IntKind.i64.wrap (0*sg a)=0:=by rw [Int.zero_mul];exact Go.OB.wrap_i64 (by omega) (by omega)
  have j:IntKind.i64.wrap (1*sg a)=sg a:=by rw [Int.one_mul];exact Go.OB.wrap_i64 (by omega) (by omega)
  have k:IntKind.i64.wrap (-1*sg a)=IntKind.i64.wrap (-sg a):=by congr 1;omega
  rcases Int.lt_trichotomy h m with q|q|q
  ·rw [dT q,qD (by omega: ¬m<h),qD (by omega: ¬h=m)];simp only [zU,zQ,zC,k]
  ·subst q;rw [qD (Int.lt_irrefl h),dT (rfl:h=h)];rcases Int.lt_trichotomy l n with r|r|r
   ·rw [dT r,qD (by omega: ¬n<l)];simp only [zU,zQ,zC,k]
   ·subst r;rw [qD (Int.lt_irrefl l),dT (rfl:l=l)];simp only [zU,zQ,zC,i]
   ·rw [dT r,qD (by omega: ¬l<n),qD (by omega: ¬l=n)];simp only [zU,zQ,zC,j]
  ·rw [dT q,qD (by omega: ¬h<m),qD (by omega: ¬h=m)];simp only [zU,zQ,zC,j]
 ·rw [dT e,zU,zU]
theorem aUk (v:Int)(l:List Int)(x:Int):cnt v (l++[x])=cnt v l+if x=v then 1 else 0:=aRc v x l
theorem joined_ok {v:gG}{g:Nat}{x:gI}{ts:List Int} (h:v.nodes[g]? =some x) (d:ts.length=x.kids.length) (D:ts.length<=1000000) (o: ∀(j:Nat) (k:Int),x.kids[j]? =some k-> ∃y,at' v.nodes k=some y/\ts[j]? =some y.now):
  Fde v (g:Int)=some (if x.c.Kind=9 then dcd (cnt 2 ts=ts.length) (0<cnt 1 ts)else dcd (0<cnt 2 ts) (cnt 1 ts=ts.length)):=by
 have a0:at' v.nodes (g:Int)=some x:=yR h;have e:Fhc v (g:Int) (0,0,0)=some (cnt 2 ts,cnt 1 ts):=by
  unfold Fhc;refine dV (λ(i:Nat)=>(cnt 2 (ts.take i),cnt 1 (ts.take i),(i:Int))) x.kids (some (cnt 2 ts,cnt 1 ts)) (by omega) ?_ ?_
  ·intro r i k b hi;obtain⟨y,s,u⟩:=o i k b;have w:ts.take (i+1)=ts.take i++[y.now]:=by rw [List.take_add_one,u];rfl
   have c2:=cnt_le 2 (ts.take i);have G:=cnt_le 1 (ts.take i);have A:(ts.take i).length<=1000000:=by rw [List.length_take];omega
   simp only [zI,a0,zC];rw [yM hi,zU,yR b,zC,s,zC,fQ hi (by omega),w,aUk,aUk];have B:IntKind.i64.wrap (cnt 2 (ts.take i)+1)=cnt 2 (ts.take i)+1:=Go.OB.wrap_i64 (by omega) (by omega);have C:IntKind.i64.wrap (cnt 1 (ts.take i)+1)=cnt 1 (ts.take i)+1:=Go.OB.wrap_i64 (by omega) (by omega);rw [B,C]
   by_cases p:y.now=2
   ·rw [dT p,zU,zC,if_pos p,if_neg (by omega),Int.add_zero]
   ·rw [qD p,zQ,if_neg p,Int.add_zero]
    by_cases q:y.now=1
    ·rw [dT q,zU,zC,if_pos q]
    ·rw [qD q,zQ,zC,if_neg q,Int.add_zero]
  ·intro r;simp only [zI,a0,zC];rw [yN,zQ,<-d,List.take_length]
 unfold Fde;rw [e,zC];dsimp only;rw [a0,zC];simp only [zI,<-d,aQo,zC];rw [xE];split<;>rfl
structure mY (E:En)(M:Mk)(t:Nat)(c:Cond)(ks:List Int)(x:gI):Prop where
 hc:x.c=c
 hk:x.kids=ks
 now:x.now=prv (den E (mkN M c)) t
 st:c.Kind=5->aFs (E.tk (M.tr c.Name)) c.Frames.toNat t x
 rg: ∀k,(c.Kind=11\/c.Kind=12\/c.Kind=13)->c.Kids[0]? =some k->aBv (den E (mkN M k)) c.Frames.toNat t x.ring x.at_/\x.yes=cnt 2 (win (den E (mkN M k)) c.Frames.toNat t)/\x.no=cnt 1 (win (den E (mkN M k)) c.Frames.toNat t)
 kd: ∀k,c.Kind=15->c.Kids[0]? =some k->x.kid=prv (den E (mkN M k)) t
def aCp (x:gI)(t:Int):gI:=gI.mk x.c x.kids x.rule t x.kid x.ring x.at_ x.yes x.no x.known x.low x.high
theorem opp6 {t:Int}(h:0<=t/\t<=2):Fhl t=some (opp t):=by
 rcases tri h with rfl|rfl|rfl<;>rfl
section
variable {E:En}{M:Mk}{t g:Nat}{c:Cond}{ks:List Int}{x:gI}{v:gG}
theorem step_not (b:v.nodes[g]? =some x)(h:mY E M t c ks x)(hc:c.Kind=8){k:Cond}(hk:c.Kids=[k]){i:Int}(hi:ks=[i]){y:gI}(e:at' v.nodes i=some y)(j:y.now=den E (mkN M k) t)(o:0<=y.now/\y.now<=2):
  Fab v (g:Int)=some (v.nodes.set g (aCp x (den E (mkN M c) t)))/\mY E M (t+1) c ks (aCp x (den E (mkN M c) t)):=by
 have p:g<v.nodes.length:=(gS.1 b).1;have a0:at' v.nodes (g:Int)=some x:=yR b;have r:den E (mkN M c) t=opp y.now:=by
  rw [mP,hk,hc];simp only [mkK,Int.reduceEq,if_false,if_true,List.map_cons,List.map_nil,List.getD_cons_zero];rw [den,j]
 have d:x.kids=[i]:=h.hk.trans hi;have s:x.c.Kind=8:=by rw [h.hc];exact hc
 refine⟨?_,⟨h.hc,h.hk,rfl,λq=>by omega,λk q=>by omega,λk q=>by omega⟩⟩;unfold Fab;have u:at' [i] 0=some i:=rfl;simp only [zI,a0,zC,d];rw [qD (by simp),zQ,u,zC,e,zC,dT s,zU,opp6 o,zC,set_self p,zC,<-r];refine congrArg some (congrArg (v.nodes.set g) ?_);unfold aCp;rw [jX,<-d]
end
structure Kids (E:En)(M:Mk)(t:Nat)(c:Cond)(ks:List Int)(v:gG):Prop where
 len:ks.length=c.Kids.length
 at_: ∀(j:Nat) (k:Int),ks[j]? =some k-> ∃y d,at' v.nodes k=some y/\c.Kids[j]? =some d/\y.now=den E (mkN M d) t
 rg: ∀d∈c.Kids,∀s,0<=den E (mkN M d) s/\den E (mkN M d) s<=2
section
variable {E:En}{M:Mk}{t g:Nat}{c:Cond}{ks:List Int}{x:gI}{v:gG}
theorem Kids.one (h:Kids E M t c ks v){k:Cond}(b:c.Kids=[k]): ∃i y,ks=[i]/\at' v.nodes i=some y/\y.now=den E (mkN M k) t/\ ∀s,0<=den E (mkN M k) s/\den E (mkN M k) s<=2:=by
 have e:=h.len;rw [b]at e
 match ks,e,h with
 | [i],_,h=>
  obtain⟨y,d,o,j,p⟩:=h.at_ 0 i rfl;rw [b]at j;obtain rfl:k=d:=by simpa using j
  exact⟨i,y,rfl,o,p,h.rg k (by rw [b];simp)⟩
theorem Kids.two (h:Kids E M t c ks v){k l:Cond}(b:c.Kids=[k,l]): ∃i j y z,ks=[i,j]/\at' v.nodes i=some y/\at' v.nodes j=some z/\y.now=den E (mkN M k) t/\z.now=den E (mkN M l) t:=by
 have o:=h.len;rw [b]at o
 match ks,o,h with
 | [i,j],_,h=>
  obtain⟨y,d,q,p,r⟩:=h.at_ 0 i rfl;obtain⟨z,e,g1,g2,g3⟩:=h.at_ 1 j rfl;rw [b]at p g2;obtain rfl:k=d:=by simpa using p
  obtain rfl:l=e:=by simpa using g2
  exact⟨i,j,y,z,rfl,q,g1,r,g3⟩
theorem aTy (e:v.nodes[g]? =some x) (h:mY E M t c ks x) (hc:c.Kind=9\/c.Kind=10) (hk:Kids E M t c ks v) (I:2<=c.Kids.length/\c.Kids.length<=200):
  Fab v (g:Int)=some (v.nodes.set g (aCp x (den E (mkN M c) t)))/\mY E M (t+1) c ks (aCp x (den E (mkN M c) t)):=by
 have u:g<v.nodes.length:=(gS.1 e).1;have a0:at' v.nodes (g:Int)=some x:=yR e;have w:=hk.len;have tr: ∀z∈c.Kids.map (λd=>den E (mkN M d) t),0<=z/\z<=2:=λz A=>by
  obtain⟨d,hd,rfl⟩:=List.mem_map.1 A;exact hk.rg d hd t
 have B:den E (mkN M c) t=if c.Kind=9 then dcd (cnt 2 (c.Kids.map λd=>den E (mkN M d) t)=(c.Kids.map λd=>den E (mkN M d) t).length) (0<cnt 1 (c.Kids.map λd=>den E (mkN M d) t))else dcd (0<cnt 2 (c.Kids.map λd=>den E (mkN M d) t)) (cnt 1 (c.Kids.map λd=>den E (mkN M d) t)=(c.Kids.map λd=>den E (mkN M d) t).length):=by
  rw [mP];rcases hc with hc|hc
  ·rw [hc];simp only [mkK,Int.reduceEq,if_false,if_true,or_false,decide_false];rw [den];show List.foldl (vW 1 2) 2 (dens E (c.Kids.map (mkN M)) t)=_;rw [aKj,List.map_map];exact and_fold tr
  ·rw [hc];simp only [mkK,Int.reduceEq,if_false,if_true,or_true,decide_true];rw [den];show List.foldl (vW 2 1) 1 (dens E (c.Kids.map (mkN M)) t)=_;rw [aKj,List.map_map];exact or_fold tr
 have jk:=joined_ok (v:=v) (g:=g) (x:=x) (ts:=c.Kids.map λd=>den E (mkN M d) t) e (by rw [List.length_map,h.hk,w]) (by rw [List.length_map];omega) (λj k s=>by
  rw [h.hk]at s;obtain⟨y,d,o,C,D⟩:=hk.at_ j k s;exact⟨y,o,by rw [List.getElem?_map,C,D];rfl⟩)
 rw [h.hc,<-B]at jk;refine⟨?_,⟨h.hc,h.hk,rfl,λq=>by omega,λk q=>by omega,λk q=>by omega⟩⟩;obtain⟨i0,b⟩: ∃i,ks[0]? =some i:=⟨_,gE (by omega)⟩;obtain⟨y,d,o,-,-⟩:=hk.at_ 0 i0 b;have G:at' ks (0:Int)=some i0:=yR (i:=0) b;have p:Fde (gG.mk (Rules.mk v.r.Phases v.r.Moves v.r.Rules) v.names v.dens v.told v.frames v.phase v.nodes v.first v.moves v.rules) (g:Int)=some (den E (mkN M c) t):=jk;unfold Fab;simp only [zI,a0,zC,h.hk];rw [qD (by omega),zQ,G,zC,o,zC,h.hc,qD (by omega: ¬c.Kind=8),zQ,p];have H:gQ (decide (c.Kind=9)) (some (decide (c.Kind=9))) (some (decide (c.Kind=10)))=some true:=by
  rcases hc with hc|hc
  ·rw [dT hc];rfl
  ·rw [qD (by omega: ¬c.Kind=9),dT hc];rfl
 rw [H,zC,zU,zC,set_self u,zC];refine congrArg some (congrArg (v.nodes.set g) ?_);unfold aCp;rw [jX,h.hk,h.hc]
theorem aYd (d:v.nodes[g]? =some x) (h:mY E M t c ks x) (hc:c.Kind=14) (hk:Kids E M t c ks v) {k l:Cond} (e:c.Kids=[k,l]):
  Fab v (g:Int)=some (v.nodes.set g (aCp x (den E (mkN M c) t)))/\mY E M (t+1) c ks (aCp x (den E (mkN M c) t)):=by
 have o:g<v.nodes.length:=(gS.1 d).1;have a0:at' v.nodes (g:Int)=some x:=yR d;obtain⟨i,j,y,z,rfl,s,u,w,A⟩:=hk.two e;have B:mkN M c= .since (mkN M k) (mkN M l) 0 false:=by
  rw [mP,hc,e];simp [mkK]
 have b:den E (mkN M c) t=dcd (z.now=2\/y.now=2/\x.now=2) (z.now=1/\(y.now=1\/x.now=1)):=by
  rw [h.now,B,den,w,A];rw [<-aOz,since_dcd]
 refine⟨?_,⟨h.hc,h.hk,rfl,λq=>by omega,λk q=>by omega,λk q=>by omega⟩⟩;have C:at' [i,j] 0=some i:=rfl;have a2:at' [i,j] 1=some j:=rfl;unfold Fab;simp only [zI,a0,zC,h.hk];rw [qD (by simp),zQ,C,zC,s,zC,h.hc,qD (by omega: ¬c.Kind=8),zQ,qD (by omega: ¬c.Kind=9),qD (by omega: ¬c.Kind=10),zQ,zC,zQ,qD (by omega: ¬c.Kind=11),zQ,qD (by omega: ¬c.Kind=12),zQ,qD (by omega: ¬c.Kind=13),zQ,dT hc,zU,a2,zC,u,zC];have D:gQ (decide (z.now=2)) (some true) (gQ (decide (y.now=2)) (some (decide (x.now=2))) (some false))=some (decide (z.now=2\/y.now=2/\x.now=2)):=by
  by_cases p:z.now=2<;>by_cases q:y.now=2<;>by_cases r:x.now=2<;>simp [p,q,r,gQ]
 rw [D,zC];have fin: ∀q:Prop,[Decidable q]->(q↔(z.now=1/\(y.now=1\/x.now=1)))->Faa (decide (z.now=2\/y.now=2/\x.now=2)) (decide q)=some (den E (mkN M c) t):=λq _ G=>by
  rw [b,aQo];unfold dcd;simp only [G]
 have ft:Faa (decide (z.now=2\/y.now=2/\x.now=2)) true=Faa (decide (z.now=2\/y.now=2/\x.now=2)) (decide True):=by simp
 have H:Faa (decide (z.now=2\/y.now=2/\x.now=2)) false=Faa (decide (z.now=2\/y.now=2/\x.now=2)) (decide False):=by simp
 have last:set' v.nodes (g:Int) (gI.mk (Cond.mk c.Kind c.Name c.Other c.Op c.N c.Frames c.Kids) [i,j] x.rule (den E (mkN M c) t) x.kid x.ring x.at_ x.yes x.no x.known x.low x.high)=some (v.nodes.set g (aCp x (den E (mkN M c) t))):=by
  rw [set_self o];refine congrArg some (congrArg (v.nodes.set g) ?_);unfold aCp;rw [jX,h.hk,h.hc]
 by_cases p:z.now=1
 ·rw [dT p,zU]
  by_cases q:y.now=1
  ·rw [dT q,zU,ft,fin True (by simp [p,q]),zC,last,zC]
  ·rw [qD q,zQ,fin (x.now=1) (by simp [p,q]),zC,last,zC]
 ·rw [qD p,zQ,H,fin False (by simp [p]),zC,last,zC]
end
section
variable {E:En}{M:Mk}{t g:Nat}{c:Cond}{ks:List Int}{x:gI}{v:gG}
def aEh (x:gI)(f:Nat->Int)(n t:Nat):gI:=gI.mk x.c x.kids x.rule x.now x.kid (x.ring.set x.at_.toNat (f t)) ((x.at_+1)%(n:Int)) (cnt 2 (win f n (t+1))) (cnt 1 (win f n (t+1))) x.known x.low x.high
theorem aMy (j:v.nodes[g]? =some x) (h:mY E M t c ks x) (hc:c.Kind=11\/c.Kind=12\/c.Kind=13) (hk:Kids E M t c ks v) {k:Cond} (b:c.Kids=[k]) (p:1<=c.Frames/\c.Frames<=4096) (Q: -1125899906842624<=c.N/\c.N<=1125899906842624):
  ∃z,Fab v (g:Int)=some (v.nodes.set g z)/\mY E M (t+1) c ks z/\z.rule=x.rule:=by
 have r:g<v.nodes.length:=(gS.1 j).1;have a0:at' v.nodes (g:Int)=some x:=yR j;obtain⟨i,y,rfl,A,s,B⟩:=hk.one b;obtain⟨u,C,D⟩:=h.rg k hc (by rw [b];rfl);have w:=put_ok j u C D (by omega) B;rw [<-s]at w;have o:Fbh v.nodes (g:Int) y.now=some (v.nodes.set g (aEh x (den E (mkN M k)) c.Frames.toNat t)):=by rw [w,s];rfl
 have G:=u.next.1;have H:at' [i] 0=some i:=rfl;have I:(aEh x (den E (mkN M k)) c.Frames.toNat t).c=c:=h.hc;have J:(aEh x (den E (mkN M k)) c.Frames.toNat t).yes=cnt 2 (win (den E (mkN M k)) c.Frames.toNat (t+1)):=rfl;have K:(aEh x (den E (mkN M k)) c.Frames.toNat t).no=cnt 1 (win (den E (mkN M k)) c.Frames.toNat (t+1)):=rfl;refine⟨aCp (aEh x (den E (mkN M k)) c.Frames.toNat t) (den E (mkN M c) t),?_,⟨h.hc,h.hk,rfl,λq=>by omega,λO _ e=>?_,λk q=>by omega⟩,rfl⟩
 ·unfold Fab;simp only [zI,a0,zC,h.hk];rw [qD (by simp),zQ,H,zC,A,zC,h.hc,qD (by omega: ¬c.Kind=8),zQ,qD (by omega: ¬c.Kind=9),qD (by omega: ¬c.Kind=10),zQ,zC,zQ,o];simp only [zC,aDh r,I,J,K,aQo,aDa r,jX];have fin: ∀d,d=den E (mkN M c) t->some (v.nodes.set g (gI.mk c (aEh x (den E (mkN M k)) c.Frames.toNat t).kids (aEh x (den E (mkN M k)) c.Frames.toNat t).rule d (aEh x (den E (mkN M k)) c.Frames.toNat t).kid (aEh x (den E (mkN M k)) c.Frames.toNat t).ring (aEh x (den E (mkN M k)) c.Frames.toNat t).at_ (cnt 2 (win (den E (mkN M k)) c.Frames.toNat (t+1))) (cnt 1 (win (den E (mkN M k)) c.Frames.toNat (t+1))) (aEh x (den E (mkN M k)) c.Frames.toNat t).known (aEh x (den E (mkN M k)) c.Frames.toNat t).low (aEh x (den E (mkN M k)) c.Frames.toNat t).high))=some (v.nodes.set g (aCp (aEh x (den E (mkN M k)) c.Frames.toNat t) (den E (mkN M c) t))):=λd hd=>by
   rw [hd];refine congrArg some (congrArg (v.nodes.set g) ?_);unfold aCp aEh;rw [h.hc]
  rcases hc with hc|hc|hc
  ·rw [dT hc,zU];refine fin _ ?_;rw [mP M c,hc,b];simp only [mkK,Int.reduceEq,if_false,if_true,or_self,List.map_cons,List.map_nil,List.getD_cons_zero];rw [den];exact(for_cnt p.1).symm
  ·rw [qD (by omega: ¬c.Kind=11),zQ,dT hc,zU];refine fin _ ?_;rw [mP M c,hc,b];simp only [mkK,Int.reduceEq,if_false,if_true,or_self,List.map_cons,List.map_nil,List.getD_cons_zero];rw [den];exact(aXr p.1).symm
  ·rw [qD (by omega: ¬c.Kind=11),zQ,qD (by omega: ¬c.Kind=12),zQ,dT hc,zU,Go.OB.wrap_i64 (n:=c.Frames-c.N) (by omega) (by omega)];refine fin _ ?_;rw [mP M c,hc,b];simp only [mkK,Int.reduceEq,if_false,if_true,or_self,List.map_cons,List.map_nil,List.getD_cons_zero];rw [den];exact(count_dcd _ _ _).symm
 ·rw [b]at e;obtain rfl:k=O:=by simpa using e
  exact⟨G,rfl,rfl⟩
theorem step_rise (j:v.nodes[g]? =some x) (h:mY E M t c ks x) (hc:c.Kind=15) (hk:Kids E M t c ks v) {k:Cond} (d:c.Kids=[k]):
  ∃z,Fab v (g:Int)=some (v.nodes.set g z)/\mY E M (t+1) c ks z/\z.rule=x.rule:=by
 have o:g<v.nodes.length:=(gS.1 j).1;have a0:at' v.nodes (g:Int)=some x:=yR j;obtain⟨i,y,rfl,u,r,_⟩:=hk.one d;have kd:=h.kd k hc (by rw [d];rfl);have w:at' [i] 0=some i:=rfl;have e:den E (mkN M c) t=dcd (y.now=2/\x.kid=1) (y.now=1\/x.kid=2):=by
  rw [mP M c,hc,d];simp only [mkK,Int.reduceEq,if_false,or_self,List.map_cons,List.map_nil,List.getD_cons_zero];rw [den,kd,r];rfl
 refine⟨gI.mk x.c x.kids x.rule (den E (mkN M c) t) y.now x.ring x.at_ x.yes x.no x.known x.low x.high,?_,⟨h.hc,h.hk,rfl,λq=>by omega,λs q=>by omega,λs _ b=>?_⟩,rfl⟩
 ·unfold Fab;simp only [zI,a0,zC,h.hk];rw [qD (by simp),zQ,w,zC,u,zC,h.hc,qD (by omega: ¬c.Kind=8),zQ,qD (by omega: ¬c.Kind=9),qD (by omega: ¬c.Kind=10),zQ,zC,zQ,qD (by omega: ¬c.Kind=11),zQ,qD (by omega: ¬c.Kind=12),zQ,qD (by omega: ¬c.Kind=13),zQ,qD (by omega: ¬c.Kind=14),zQ];have A:gQ (decide (y.now=2)) (some (decide (x.kid=1))) (some false)=some (decide (y.now=2/\x.kid=1)):=by
   by_cases p:y.now=2<;>by_cases q:x.kid=1<;>simp [p,q,gQ]
  have fin: ∀q:Prop,[Decidable q]->(q↔(y.now=1\/x.kid=2))->Faa (decide (y.now=2/\x.kid=1)) (decide q)=some (den E (mkN M c) t):=λq _ B=>by
   rw [e,aQo];unfold dcd;simp only [B]
  have ft:Faa (decide (y.now=2/\x.kid=1)) true=Faa (decide (y.now=2/\x.kid=1)) (decide True):=by simp
  rw [A,zC]
  by_cases p:y.now=1
  ·rw [dT p,zU,ft,fin True (by simp [p]),zC,set_self o,zC,jX]
  ·rw [qD p,zQ,fin (x.kid=2) (by simp [p]),zC,set_self o,zC,jX]
 ·rw [d]at b;obtain rfl:k=s:=by simpa using b
  exact r
end
section
variable {E:En}{M:Mk}{t g:Nat}{c:Cond}{ks:List Int}{x z:gI}{v:gG}
theorem aPe (e:v.nodes[g]? =some x)(i:x.kids=[]){d:Int}(j:Fad v (g:Int)=some (d,v.nodes.set g z)):
  Fab v (g:Int)=some (v.nodes.set g (aCp z d)):=by
 have h:g<v.nodes.length:=(gS.1 e).1;have a0:at' v.nodes (g:Int)=some x:=yR e;have b:Fad (gG.mk (Rules.mk v.r.Phases v.r.Moves v.r.Rules) v.names v.dens v.told v.frames v.phase v.nodes v.first v.moves v.rules) (g:Int)=some (d,v.nodes.set g z):=j;unfold Fab;simp only [zI,a0,zC,i];rw [dT (by simp:(([]:List Int).length:Int)=0),zU,b,zC];dsimp only;rw [aDh h,zC,aDa h,zC,jX];rfl
theorem leaf_same (b:v.nodes[g]? =some x){d:Int}(e:Fad v (g:Int)=some (d,v.nodes)):Fad v (g:Int)=some (d,v.nodes.set g x):=by rw [e,aMl b]
theorem leaf_true (b:v.nodes[g]? =some x)(h:mY E M t c ks x)(hc:c.Kind=1):Fad v (g:Int)=some (den E (mkN M c) t,v.nodes):=by
 have a0:at' v.nodes (g:Int)=some x:=yR b;unfold Fad;simp only [zI,a0,zC,h.hc];rw [dT hc,zU,mP,hc];simp only [mkK,if_true];rw [den]
theorem aZk (b:v.nodes[g]? =some x)(h:mY E M t c ks x)(hc:c.Kind=2):Fad v (g:Int)=some (den E (mkN M c) t,v.nodes):=by
 have a0:at' v.nodes (g:Int)=some x:=yR b;unfold Fad;simp only [zI,a0,zC,h.hc];rw [qD (by omega: ¬c.Kind=1),zQ,dT hc,zU,mP,hc];simp only [mkK,if_true,Int.reduceEq,if_false];rw [den]
theorem leaf_num (j:v.nodes[g]? =some x) (h:mY E M t c ks x) (hc:c.Kind=3) {T:fD}{d:Int} (k:Faf v c.Name=some (T,d)) (o:at' (E.told t) (M.tr c.Name)=some T):Fad v (g:Int)=some (den E (mkN M c) t,v.nodes):=by
 have a0:at' v.nodes (g:Int)=some x:=yR j;have e:Faf (gG.mk (Rules.mk v.r.Phases v.r.Moves v.r.Rules) v.names v.dens v.told v.frames v.phase v.nodes v.first v.moves v.rules) c.Name=some (T,d):=k;have i:at' (E.m t).told (M.tr c.Name)=some T:=o;have p:den E (mkN M c) t=aQp (E.m t) (M.tr c.Name) c.Op c.N:=by
  rw [mP,hc];simp only [mkK,if_true,Int.reduceEq,if_false];rw [den]
 rw [p];unfold aQp Fad Fbe;simp only [zI,a0,zC,h.hc];rw [qD (by omega: ¬c.Kind=1),zQ,qD (by omega: ¬c.Kind=2),zQ,dT hc,zU,e,zC,i,zC];dsimp only
 cases T.Known
 ·rfl
 ·simp only [Bool.not_true,zQ,sg_e,sg_r,zC,aIh,aUa];obtain⟨b,q⟩:=wE c.Op (sg (IntKind.i64.wrap (T.N-c.N)));obtain⟨_,s,-⟩:=aAs b;rw [q,zC,zC,s,zC,zC];rfl
theorem leaf_pair (q:v.nodes[g]? =some x) (h:mY E M t c ks x) (hc:c.Kind=4) {T U:fD}{d e:Int} (s:Faf v c.Name=some (T,d)) (i:Faf v c.Other=some (U,e)) (w:at' (E.told t) (M.tr c.Name)=some T) (A:at' (E.told t) (M.tr c.Other)=some U) (hd:d=M.dn (M.tr c.Name)) (B:e=M.dn (M.tr c.Other))
  (C: -1125899906842624<=T.N/\T.N<=1125899906842624) (D: -1125899906842624<=U.N/\U.N<=1125899906842624):Fad v (g:Int)=some (den E (mkN M c) t,v.nodes):=by
 have a0:at' v.nodes (g:Int)=some x:=yR q;have j:Faf (gG.mk (Rules.mk v.r.Phases v.r.Moves v.r.Rules) v.names v.dens v.told v.frames v.phase v.nodes v.first v.moves v.rules) c.Name=some (T,d):=s;have k:Faf (gG.mk (Rules.mk v.r.Phases v.r.Moves v.r.Rules) v.names v.dens v.told v.frames v.phase v.nodes v.first v.moves v.rules) c.Other=some (U,e):=i;have o:at' (E.m t).told (M.tr c.Name)=some T:=w;have p:at' (E.m t).told (M.tr c.Other)=some U:=A;have dn:den E (mkN M c) t=pairT (E.m t) (M.tr c.Name) (M.tr c.Other) (M.dn (M.tr c.Name)) (M.dn (M.tr c.Other)) c.Op:=by
  rw [mP,hc];simp only [mkK,if_true,Int.reduceEq,if_false];rw [den]
 rw [dn,<-hd,<-B];unfold pairT Fad Fbb;simp only [zI,a0,zC,h.hc];rw [qD (by omega: ¬c.Kind=1),zQ,qD (by omega: ¬c.Kind=2),zQ,qD (by omega: ¬c.Kind=3),zQ,dT hc,zU,j,zC];dsimp only;rw [k,zC,o,zC,p,zC];dsimp only
 cases T.Known
 ·rfl
 ·cases U.Known
  ·rfl
  ·simp only [Bool.not_true,zQ,zC,order_eq C D,aIh,aUa];obtain⟨r,G⟩:=cf_ex T.N d U.N e;rw [G,zC,zC];obtain⟨b,i⟩:=wE c.Op r;obtain⟨_,H,-⟩:=aAs b;rw [i,zC,zC,H,zC,zC];rfl
theorem leaf_rule (b:v.nodes[g]? =some x)(h:mY E M t c ks x)(hc:c.Kind=7){y:gI}(d:at' v.nodes x.rule=some y)(e:at' (E.rl t) (M.rl c.Name)=some y.now):Fad v (g:Int)=some (den E (mkN M c) t,v.nodes):=by
 have a0:at' v.nodes (g:Int)=some x:=yR b;have i:den E (mkN M c) t=y.now:=by
  rw [mP,hc];simp only [mkK,if_true,Int.reduceEq,if_false];rw [den];show(at' (E.rl t) (M.rl c.Name)).getD 0=_;rw [e];rfl
 rw [i];unfold Fad;simp only [zI,a0,zC,h.hc];rw [qD (by omega: ¬c.Kind=1),zQ,qD (by omega: ¬c.Kind=2),zQ,qD (by omega: ¬c.Kind=3),zQ,qD (by omega: ¬c.Kind=4),zQ,qD (by omega: ¬c.Kind=5),zQ,qD (by omega: ¬c.Kind=6),zQ,d,zC]
theorem aVv (b:v.nodes[g]? =some x)(h:mY E M t c ks x)(hc:c.Kind=5)(hk:x.kids=[]){d:Int}(o:Faf v c.Name=some (E.tk (M.tr c.Name) t,d))(e:v.frames=(t:Int))(G:1<=c.Frames/\c.Frames<=4096)(p:t<=1000000000)(u:0<=c.N)(w: ∀s,-1125899906842624<=(E.tk (M.tr c.Name) s).N/\(E.tk (M.tr c.Name) s).N<=1125899906842624):
  ∃z,Fab v (g:Int)=some (v.nodes.set g z)/\mY E M (t+1) c ks z/\z.rule=x.rule:=by
 have a0:at' v.nodes (g:Int)=some x:=yR b;have j:((c.Frames.toNat:Nat):Int)=c.Frames:=by omega
 obtain⟨z,s1,s2,A,B,C,_⟩:=steady_ok b (h.st hc) (by rw [h.hc];exact o) e (by rw [h.hc];exact j.symm) (by omega) p (by rw [h.hc];exact u) w;have D:den E (mkN M c) t=stT x.c.N ((c.Frames.toNat:Nat):Int) (win (E.tk (M.tr c.Name)) c.Frames.toNat (t+1)):=by
  rw [mP,hc,h.hc,j];simp only [mkK,if_true,Int.reduceEq,if_false];rw [den]
 rw [<-D]at s1;have i:Fdk (gG.mk (Rules.mk v.r.Phases v.r.Moves v.r.Rules) v.names v.dens v.told v.frames v.phase v.nodes v.first v.moves v.rules) (g:Int)=some (den E (mkN M c) t,v.nodes.set g z):=s1;refine⟨aCp z (den E (mkN M c) t),aPe b hk ?_,⟨A.trans h.hc,B.trans h.hk,rfl,λ_=>⟨s2.rg,s2.kn,s2.lo,s2.hi⟩,λk q=>by omega,λk q=>by omega⟩,C⟩;unfold Fad;simp only [zI,a0,zC,h.hc];rw [qD (by omega: ¬c.Kind=1),zQ,qD (by omega: ¬c.Kind=2),zQ,qD (by omega: ¬c.Kind=3),zQ,qD (by omega: ¬c.Kind=4),zQ,dT hc,zU,i,zC]
end
section
variable {E:En}{M:Mk}{t g:Nat}{c:Cond}{ks:List Int}{x z:gI}{v:gG}
theorem aYa (p:v.nodes[g]? =some x)(h:mY E M t c ks x)(hc:c.Kind=6)(k:v.phase=E.ps t)(q:v.phase.length<=2000000)(s:Fac v.r.Phases c.Name=some (M.ph c.Name))(u:0<=M.ph c.Name/\M.ph c.Name<v.phase.length):Fad v (g:Int)=some (den E (mkN M c) t,v.nodes):=by
 have a0:at' v.nodes (g:Int)=some x:=yR p;have w:den E (mkN M c) t=uH (E.m t) (M.ph c.Name):=by
  rw [mP,hc];simp only [mkK,if_true,Int.reduceEq,if_false];rw [den]
 obtain⟨r,d⟩:=aLo v.phase (E.told t) (E.rl t) q;obtain⟨b,o⟩:=wK u;have A:Fh8 v (0,0)=some r:=d;have B:Fbt (E.m t) (((E.m t).possible.length:Nat):Int) (0,0)=some r:=by
  show Fbt (gU.mk (E.told t) (E.ps t) (E.rl t)) ((E.ps t).length:Int) (0,0)=some r;rw [<-k];exact d
 have i:at' (E.m t).possible (M.ph c.Name)=some b:=by
  show at' (E.ps t) _=_;rw [<-k];exact o
 have j:Fcw v c.Name=some (uH (E.m t) (M.ph c.Name)):=by
  unfold Fcw uH Fbk;simp only [zI];rw [A,zC,s,zC,o,zC,B,zC];rw [i,zC]
  cases b
  ·rfl
  ·cases decide (r=1)<;>rfl
 have e:Fcw (gG.mk (Rules.mk v.r.Phases v.r.Moves v.r.Rules) v.names v.dens v.told v.frames v.phase v.nodes v.first v.moves v.rules) c.Name=some (uH (E.m t) (M.ph c.Name)):=j;rw [w];unfold Fad;simp only [zI,a0,zC,h.hc];rw [qD (by omega: ¬c.Kind=1),zQ,qD (by omega: ¬c.Kind=2),zQ,qD (by omega: ¬c.Kind=3),zQ,qD (by omega: ¬c.Kind=4),zQ,qD (by omega: ¬c.Kind=5),zQ,dT hc,zU,e,zC]
structure Looks (E:En)(M:Mk)(t:Nat)(c:Cond)(x:gI)(v:gG):Prop where
 fr:v.frames=(t:Int)
 tt:t<=1000000000
 nm:c.Kind=3\/c.Kind=4\/c.Kind=5->Faf v c.Name=some (E.tk (M.tr c.Name) t,M.dn (M.tr c.Name))/\at' (E.told t) (M.tr c.Name)=some (E.tk (M.tr c.Name) t)
 ot:c.Kind=4->Faf v c.Other=some (E.tk (M.tr c.Other) t,M.dn (M.tr c.Other))/\at' (E.told t) (M.tr c.Other)=some (E.tk (M.tr c.Other) t)
 bd: ∀tr s,-1125899906842624<=(E.tk tr s).N/\(E.tk tr s).N<=1125899906842624
 ph:c.Kind=6->v.phase=E.ps t/\v.phase.length<=2000000/\Fac v.r.Phases c.Name=some (M.ph c.Name)/\0<=M.ph c.Name/\M.ph c.Name<v.phase.length
 rl:c.Kind=7-> ∃y,at' v.nodes x.rule=some y/\at' (E.rl t) (M.rl c.Name)=some y.now
structure aOw (c:Cond):Prop where
 k1:1<=c.Kind/\c.Kind<=15
 leaf:c.Kind<=7->c.Kids=[]
 one:c.Kind=8\/c.Kind=11\/c.Kind=12\/c.Kind=13\/c.Kind=15-> ∃k,c.Kids=[k]
 two:c.Kind=14-> ∃k l,c.Kids=[k,l]
 many:c.Kind=9\/c.Kind=10->2<=c.Kids.length/\c.Kids.length<=200
 fr:c.Kind=5\/c.Kind=11\/c.Kind=12\/c.Kind=13->1<=c.Frames/\c.Frames<=4096
 n: -1125899906842624<=c.N/\c.N<=1125899906842624
 st:c.Kind=5->0<=c.N
theorem sO (h:mY E M t c ks x)(hc:c.Kind<=7)(b:c.Kind≠5):mY E M (t+1) c ks (aCp x (den E (mkN M c) t)):=
 ⟨h.hc,h.hk,rfl,λq=>absurd q b,λk q=>by omega,λk q=>by omega⟩
theorem step_ok (j:v.nodes[g]? =some x) (h:mY E M t c ks x) (hi:aOw c) (hk:Kids E M t c ks v) (o:Looks E M t c x v):
  ∃z,Fab v (g:Int)=some (v.nodes.set g z)/\mY E M (t+1) c ks z/\z.rule=x.rule:=by
 have r: ∀{d:Int},c.Kind<=7->Fad v (g:Int)=some (d,v.nodes)->Fab v (g:Int)=some (v.nodes.set g (aCp x d)):=λ {d} B e=>by
  have s:x.kids=[]:=by
   rw [h.hk];have:=hk.len;rw [hi.leaf B]at this;exact List.eq_nil_of_length_eq_zero this
  exact aPe j s (leaf_same j e)
 rcases kinds hi.k1 with e|e|e|e|e|e|e|e|e|e|e|e|e|e|e
 ·exact⟨_,r (by omega) (leaf_true j h e),sO h (by omega) (by omega),rfl⟩
 ·exact⟨_,r (by omega) (aZk j h e),sO h (by omega) (by omega),rfl⟩
 ·obtain⟨p,q⟩:=o.nm (.inl e);exact⟨_,r (by omega) (leaf_num j h e p q),sO h (by omega) (by omega),rfl⟩
 ·obtain⟨p,q⟩:=o.nm (.inr (.inl e));obtain⟨u,w⟩:=o.ot e;exact⟨_,r (by omega) (leaf_pair j h e p u q w rfl rfl (o.bd _ _) (o.bd _ _)),sO h (by omega) (by omega),rfl⟩
 ·obtain⟨p,-⟩:=o.nm (.inr (.inr e));have s:x.kids=[]:=by
   rw [h.hk];have:=hk.len;rw [hi.leaf (by omega)]at this;exact List.eq_nil_of_length_eq_zero this
  exact aVv j h e s p o.fr (hi.fr (.inl e)) o.tt (hi.st e) (o.bd _)
 ·obtain⟨p,q,u,w⟩:=o.ph e;exact⟨_,r (by omega) (aYa j h e p q u w),sO h (by omega) (by omega),rfl⟩
 ·obtain⟨y,p,q⟩:=o.rl e;exact⟨_,r (by omega) (leaf_rule j h e p q),sO h (by omega) (by omega),rfl⟩
 ·obtain⟨k,b⟩:=hi.one (.inl e);obtain⟨_,y,C,D,A,G⟩:=hk.one b;obtain⟨s1,s2⟩:=step_not j h e b C D A (by rw [A];exact G t);exact⟨_,s1,s2,rfl⟩
 ·obtain⟨s1,s2⟩:=aTy j h (.inl e) hk (hi.many (.inl e));exact⟨_,s1,s2,rfl⟩
 ·obtain⟨s1,s2⟩:=aTy j h (.inr e) hk (hi.many (.inr e));exact⟨_,s1,s2,rfl⟩
 ·obtain⟨k,b⟩:=hi.one (by omega);exact aMy j h (by omega) hk b (hi.fr (by omega)) hi.n
 ·obtain⟨k,b⟩:=hi.one (by omega);exact aMy j h (by omega) hk b (hi.fr (by omega)) hi.n
 ·obtain⟨k,b⟩:=hi.one (by omega);exact aMy j h (by omega) hk b (hi.fr (by omega)) hi.n
 ·obtain⟨k,l,b⟩:=hi.two e;obtain⟨s1,s2⟩:=aYd j h e hk b;exact⟨_,s1,s2,rfl⟩
 ·obtain⟨k,b⟩:=hi.one (by omega);exact step_rise j h e hk b
end
structure Itm where
 c:Cond
 ks:List Int
 M:Mk
 rule:Int
def aTk (L:List Itm):Prop:= ∀(g:Nat) (it:Itm),L[g]? =some it->it.ks.length=it.c.Kids.length/\aOw it.c/\ ∀(j:Nat) (k:Int),it.ks[j]? =some k-> ∃(b:Nat) (y:Itm),k=(b:Int)/\b<g/\L[b]? =some y/\it.c.Kids[j]? =some y.c/\y.M=it.M
structure tN (E:En)(L:List Itm)(ns:List gI)(n t:Nat):Prop where
 len:ns.length=L.length
 nd: ∀(g:Nat) (it:Itm),L[g]? =some it-> ∃x,ns[g]? =some x/\mY E it.M (if g<n then t+1 else t) it.c it.ks x/\x.rule=it.rule
section
variable {E:En}{L:List Itm}{n t:Nat}{v:gG}
theorem aMu (J:aTk L) (h:tN E L v.nodes n t) (K:n<L.length) (N: ∀it∈L,∀s,0<=den E (mkN it.M it.c) s/\den E (mkN it.M it.c) s<=2)
  (i: ∀it x,L[n]? =some it->v.nodes[n]? =some x->x.rule=it.rule->Looks E it.M t it.c x v):
  ∃ns,Fab v (n:Int)=some ns/\tN E L ns (n+1) t:=by
 obtain⟨it,b⟩: ∃it,L[n]? =some it:=⟨_,gE K⟩;obtain⟨x,r,D,G⟩:=h.nd n it b;rw [if_neg (Nat.lt_irrefl n)]at D;obtain⟨l1,l2,H⟩:=J n it b;have O:Kids E it.M t it.c it.ks v:=by
  refine⟨l1,λj k o=>?_,λ_ hd s=>?_⟩
  ·obtain⟨I,y,rfl,Q,u,p,A⟩:=H j k o;obtain⟨w,B,q,-⟩:=h.nd I y u;rw [if_pos Q]at q;exact⟨w,y.c,yR B,p,by rw [q.now,A];rfl⟩
  ·obtain⟨j,o⟩:=List.getElem?_of_mem hd;have C:j<it.ks.length:=by have:=(gS.1 o).1;omega
   obtain⟨I,y,-,-,u,p,A⟩:=H j _ (gE C);rw [o]at p;obtain rfl:=oI p;have:=N y (qS u) s;rwa [A]at this
 obtain⟨z,R,z2,z3⟩:=step_ok r D l2 O (i it x b r G);have S:n<v.nodes.length:=(gS.1 r).1;refine⟨_,R,by rw [List.length_set];exact h.len,λg X o=>?_⟩
 by_cases c:g=n
 ·subst c;obtain rfl:=oI (b.symm.trans o);rw [if_pos (Nat.lt_succ_self _)];exact⟨z,List.getElem?_set_self S,z2,z3.trans G⟩
 ·obtain⟨w,B,q,Y⟩:=h.nd g X o;refine⟨w,by rw [List.getElem?_set_ne (Ne.symm c)];exact B,?_,Y⟩;have e:(g<n+1)=(g<n):=by apply propext;omega
  simp only [e];exact q
theorem tN.next (h:tN E L v.nodes L.length t):tN E L v.nodes 0 (t+1):=by
 refine⟨h.len,λg it b=>?_⟩;obtain⟨x,e,d,i⟩:=h.nd g it b;rw [if_pos (gS.1 b).1]at d;exact⟨x,e,by rw [if_neg (by omega)];exact d,i⟩
theorem tN.now (h:tN E L v.nodes n t){g:Nat}{it:Itm}(b:L[g]? =some it)(e:g<n): ∃x,v.nodes[g]? =some x/\x.now=den E (mkN it.M it.c) t:=by
 obtain⟨x,i,d,-⟩:=h.nd g it b;rw [if_pos e]at d;exact⟨x,i,d.now⟩
end
def wN (v:gG)(told:List fD)(ph:List Bool)(ns:List gI):gG:=gG.mk v.r v.names v.dens told v.frames ph ns v.first v.moves v.rules
section
variable {E:En}{L:List Itm}{t f0:Nat}{v:gG}{ns0:List gI}{told:List fD}{ph:List Bool}
theorem aZv {α:Type}{n i:Nat}{a x:α}(h:(List.replicate n a)[i]? =some x):i<n:=by
 have:=(gS.1 h).1;rwa [List.length_replicate]at this
theorem next1 (D:aTk L)(h:tN E L ns0 0 t)(A:v.first=(f0:Int))(G:f0<=L.length)(C:L.length<=1000000000)(H: ∀it∈L,∀s,0<=den E (mkN it.M it.c) s/\den E (mkN it.M it.c) s<=2)
  (d: ∀n ns it x,n<f0->tN E L ns n t->L[n]? =some it->ns[n]? =some x->x.rule=it.rule->Looks E it.M t it.c x (wN v told v.phase ns)):
  ∃ns,Ffp v told (0,ns0)=some ns/\tN E L ns f0 t:=by
 unfold Ffp;have q:=aV (body:=λj (s:Int×List gI)=>
   gJ (decide (s.1<v.first)) λk=>
   gQ k
   (gB (Fab (gG.mk (Rules.mk v.r.Phases v.r.Moves v.r.Rules) v.names v.dens told v.frames v.phase s.2 v.first v.moves v.rules) s.1) λo=>
   gJ (IntKind.i64.wrap (s.1+1)) λp=>
   j (p,o))
   (some s.2)) (λ(i:Nat) (s:List gI)=>((i:Int),s)) (List.replicate f0 ()) (λi s=>tN E L s i t) (λ(r:List gI)=>tN E L r f0 t) (by rw [List.length_replicate];omega)
   (λI i s _ J _ w=>by
    have e:=aZv J;obtain⟨ns,K,N⟩:=aMu (v:=wN v told v.phase s) D w (by omega) H (λit x a b c=>d i s it x e w a b c);have B:Fab (gG.mk (Rules.mk v.r.Phases v.r.Moves v.r.Rules) v.names v.dens told v.frames v.phase s v.first v.moves v.rules) (i:Int)=some ns:=K;refine⟨ns,N,?_⟩;simp only [zI];rw [A,yM e,zU,<-A,B,zC,fQ e (by omega)])
   (λI s w=>by
    rw [List.length_replicate]at w⊢;simp only [zI];rw [A,yN,zQ];exact⟨_,rfl,w⟩) ns0 h
 exact q
theorem next2 (D:aTk L)(h:tN E L ns0 f0 t)(G:v.first=(f0:Int))(H:f0<=L.length)(C:L.length<=1000000000)(I: ∀it∈L,∀s,0<=den E (mkN it.M it.c) s/\den E (mkN it.M it.c) s<=2)
  (e: ∀n ns it x,f0<=n->tN E L ns n t->L[n]? =some it->ns[n]? =some x->x.rule=it.rule->Looks E it.M t it.c x (wN v told ph ns)):
  ∃ns,Fhy v told ph (v.first,ns0)=some ns/\tN E L ns L.length t:=by
 unfold Fhy;have q:=aV (body:=λp (s:Int×List gI)=>
   gJ (s.2.length:Int) λw=>
   gJ (decide (s.1<w)) λA=>
   gQ A
   (gB (Fab (gG.mk (Rules.mk v.r.Phases v.r.Moves v.r.Rules) v.names v.dens told v.frames ph s.2 v.first v.moves v.rules) s.1) λj=>
   gJ (IntKind.i64.wrap (s.1+1)) λk=>
   p (k,j))
   (some s.2)) (λ(i:Nat) (s:List gI)=>(((f0+i:Nat):Int),s)) (List.replicate (L.length-f0) ()) (λi s=>tN E L s (f0+i) t) (λ(r:List gI)=>tN E L r L.length t) (by rw [List.length_replicate];omega)
   (λJ i s _ K _ d=>by
    have N:=aZv K;obtain⟨ns,O,Q⟩:=aMu (v:=wN v told ph s) D d (by omega) I (λit x a b c=>e (f0+i) s it x (by omega) d a b c);have B:Fab (gG.mk (Rules.mk v.r.Phases v.r.Moves v.r.Rules) v.names v.dens told v.frames ph s v.first v.moves v.rules) ((f0+i:Nat):Int)=some ns:=O;refine⟨ns,Q,?_⟩;have o:decide (((f0+i:Nat):Int)<(s.length:Int))=true:=dT (by rw [d.len];omega);simp only [zI];rw [o,zU,B,zC,fQ (n:=L.length) (show f0+i<L.length by omega) (by omega)];rfl)
   (λJ s d=>by
    rw [List.length_replicate]at d⊢;rw [show f0+(L.length-f0)=L.length by omega]at d⊢;have o:decide (((L.length:Nat):Int)<(s.length:Int))=false:=qD (by rw [d.len];omega);simp only [zI];rw [o,zQ];exact⟨_,rfl,d⟩) ns0 h
 rw [G];exact q
theorem frame6_ok (o:aTk L)(h:tN E L v.nodes 0 t)(p:v.first=(f0:Int))(i:f0<=L.length)(e:L.length<=1000000000)(q: ∀it∈L,∀s,0<=den E (mkN it.M it.c) s/\den E (mkN it.M it.c) s<=2)(j:v.frames=(t:Int))(D:t<=1000000000)
  (b: ∀n ns it x,n<f0->tN E L ns n t->L[n]? =some it->ns[n]? =some x->x.rule=it.rule->Looks E it.M t it.c x (wN v told v.phase ns))
  (d: ∀n ns it x,f0<=n->tN E L ns n t->L[n]? =some it->ns[n]? =some x->x.rule=it.rule->Looks E it.M t it.c x (wN v told (E.ps t) ns))
  (k: ∀ns,tN E L ns f0 t->Fba (wN v told v.phase ns) v.phase=some (E.ps t)):
  ∃ns,Fb7 v told=some (gG.mk v.r v.names v.dens told ((t+1:Nat):Int) (E.ps t) ns v.first v.moves v.rules)/\tN E L ns 0 (t+1):=by
 obtain⟨u,A,a2⟩:=next1 o h p i e q b;obtain⟨w,B,C⟩:=next2 o a2 p i e q d;have m:=k u a2;have m':Fba (gG.mk (Rules.mk v.r.Phases v.r.Moves v.r.Rules) v.names v.dens told v.frames v.phase u v.first v.moves v.rules) v.phase=some (E.ps t):=m;refine⟨w,?_,tN.next (v:=wN v told (E.ps t) w) C⟩;unfold Fb7;rw [A,zC,m',zC,B,zC];simp only [zI];rw [j,Go.OB.wrap_i64 (by omega) (by omega)];rfl
end
structure MvI (v:gG)(zs:List (fJ×Int))(P:Nat):Prop where
 len:v.r.Moves.length=zs.length
 small:zs.length<=1000000
 ph:v.r.Phases.length=P
 mv: ∀(k:Nat) (z:fJ×Int),zs[k]? =some z-> ∃m a y,v.r.Moves[k]? =some m/\at' v.moves (k:Int)=some a/\at' v.nodes a=some y/\y.now=z.2/\Fac v.r.Phases m.To=some z.1.to/\(0<=z.1.to/\z.1.to<P)/\ ∀(i:Nat) s,v.r.Phases[i]? =some s->(m.From=s↔z.1.from_=(i:Int))
section
variable {v:gG}{zs:List (fJ×Int)}{P:Nat}
def mvB (K:gG)(k:Int):(Bool×Int×(List Bool)->Option (Bool×(List Bool)))->Bool×Int×(List Bool)->Option (Bool×(List Bool)):=λo ⟨e,d,b⟩=>
 gB (gJ (K.r.Moves.length:Int) λp=>
 gJ (decide (d<p)) λq=>
 gQ q
 (some e)
 (some false)) λs=>
 gQ s
 (gB (gB (at' K.r.Moves d) λh=>
 gB (at' K.r.Phases k) λu=>
 gJ (decide ((h.From:Str)≠u)) λw=>
 gQ w
 (some (e,b))
 (gB (at' K.moves d) λA=>
 gB (at' K.nodes A) λi=>
 gB (gJ (decide (i.now≠1)) λB=>
 gQ B
 (gB (Fac K.r.Phases h.To) λj=>
 gB (at' b j) λ_=>
 gB (set' b j true) λC=>
 some C)
 (some b)) λD=>
 gJ (decide (i.now≠2)) λG=>
 some (G,D))) λ⟨H,I⟩=>
 gJ (IntKind.i64.wrap (d+1)) λJ=>
 o (H,J,I))
 (some (e,b))
theorem mvB_eq (g:Int):Feo v g=fK (mvB v g):=rfl
theorem mvB_stop (_:MvI v zs P)(g i:Int)(b:List Bool){n:Nat}(d:0<n):dW (mvB v g) n (false,i,b)=some (false,b):=by
 obtain⟨m,rfl⟩: ∃m,n=m+1:=⟨n-1,by omega⟩;rw [dW];unfold mvB;simp only [zI];cases decide (i<(v.r.Moves.length:Int))<;>rfl
theorem mvB_ok (h:MvI v zs P) {p:Nat}{s:Str} (A:v.r.Phases[p]? =some s): ∀(d i n:Nat) (j:List Bool),i+d=zs.length->d<n->j.length=P->dW (mvB v (p:Int)) n (true,(i:Int),j)=some (rG (p:Int) (zs.drop i) j)
 |0,i,n,j,hd,N,k=>by
  obtain⟨m,rfl⟩: ∃m,n=m+1:=⟨n-1,by omega⟩;rw [dW,List.drop_of_length_le (by omega)];unfold mvB;simp only [zI];rw [qD (by rw [h.len];omega),zQ,zC,zQ];rfl
 |d+1,i,n,j,hd,N,k=>by
  obtain⟨m,rfl⟩: ∃m,n=m+1:=⟨n-1,by omega⟩;have hi:i<zs.length:=by omega
  obtain⟨q,a,y,O,Q,R,H,I,u,S⟩:=h.mv i zs[i] (gE hi);have B:zs.drop i=zs[i]::zs.drop (i+1):=List.drop_eq_getElem_cons hi;have C:=S p s A;have w:IntKind.i64.wrap ((i:Int)+1)=((i+1:Nat):Int):=fQ hi (by have:=h.small;omega);obtain⟨_,J⟩:=wK (l:=j) (i:=zs[i].1.to) (by rw [k];exact u);have K:set' j zs[i].1.to true=some (j.set zs[i].1.to.toNat true):=by unfold set';rw [if_pos ⟨u.1,by rw [k];exact u.2⟩]
  rw [dW,B];have D:=λo (G:o.length=P)=>mvB_ok h A d (i+1) m o (by omega) (by omega) G
  generalize zs[i]=z at *
  obtain⟨mv,tr⟩:=z;dsimp only at H I u C J K;rw [rG];show gB _ _=_;simp only [zI];rw [dT (by rw [h.len];omega:(i:Int)<(v.r.Moves.length:Int)),zU,zC,zU,yR O,zC,yR A,zC]
  by_cases c:q.From=s
  ·have c': ¬mv.from_≠(p:Int):=λe=>e (C.1 c)
   rw [qD (λe=>e c),zQ,Q,zC,R,zC,H]
   by_cases t1:tr=1
   ·rw [qD (λe=>e t1),zQ,zC,dT (by omega:tr≠2),zC,if_pos (.inr t1)];dsimp only;rw [w];exact D j k
   ·rw [dT t1,zU,I,zC,J,zC,K,zC,zC,if_neg (by rintro(e|e);exact c' e;exact t1 e)]
    by_cases t2:tr=2
    ·rw [qD (λe=>e t2),zC,if_pos t2];dsimp only;exact mvB_stop h _ _ _ (by omega)
    ·rw [dT t2,zC,if_neg t2];dsimp only;rw [w];exact D _ (by rw [List.length_set];exact k)
  ·rw [dT c,zU,zC,if_pos (.inl λe=>c (C.2 e))];dsimp only;rw [w];exact D j k
end
section
variable {v:gG}{zs:List (fJ×Int)}{P:Nat}
theorem moved_ok6 (h:MvI v zs P) (d:List Bool) (Y:d.length=P) (hP:P<=1000000):Fba v d=some (wY zs d 0 (List.replicate P false)):=by
 have mk:make' 1 (d.length:Int) (false:Bool)=some (List.replicate P false):=by
  unfold make';rw [if_pos ⟨by omega,by omega,by omega⟩,Int.toNat_natCast,Y]
 have e:Ffy v d (0,List.replicate P false)=some (wY zs d 0 (List.replicate P false)):=by
  unfold Ffy;have q:=aV (body:=λo (s:Int×List Bool)=>
   gJ (d.length:Int) λp=>
   gJ (decide (s.1<p)) λu=>
   gQ u
   (gB (gB (at' d s.1) λw=>
   gJ (!w) λA=>
   gQ A
   (some s.2)
   (gB (Feo v s.1 (true,0,s.2)) λ⟨B,j⟩=>
   gB (at' j s.1) λC=>
   gQ C
   (gB (at' j s.1) λ_=>
   gB (set' j s.1 true) λD=>
   some D)
   (gB (at' j s.1) λ_=>
   gB (set' j s.1 B) λG=>
   some G))) λH=>
   gJ (IntKind.i64.wrap (s.1+1)) λI=>
   o (I,H))
   (some s.2)) (λ(i:Nat) (s:List Bool)=>((i:Int),s)) d (λi s=>s.length=P/\wY zs (d.drop i) i s=wY zs d 0 (List.replicate P false)) (λ(r:List Bool)=>r=wY zs d 0 (List.replicate P false)) (by omega)
   (λkk i s x O hi k=>by
    obtain⟨Q,k⟩:=k;have hd:d.drop i=x::d.drop (i+1):=by rw [List.drop_eq_getElem_cons hi];congr 1;rw [gE hi]at O;exact oI O
    refine⟨aDs zs i x s,⟨by rw [aGw];exact Q,by rw [<-k,hd,wY]⟩,?_⟩;obtain⟨nm,R⟩: ∃nm,v.r.Phases[i]? =some nm:=⟨_,gE (by rw [h.ph];omega)⟩;have hs:=h.small;have l2:Feo v (i:Int) (true,0,s)=some (rG (i:Int) zs s):=by
     rw [mvB_eq];unfold fK;exact mvB_ok h R zs.length 0 FU s (by omega) (mM (by omega)) Q
    have ml:=aCu (i:Int) zs s;obtain⟨b,J⟩:=wK (l:=(rG (i:Int) zs s).2) (i:=(i:Int)) ⟨by omega,by rw [ml];omega⟩;have hg:(rG (i:Int) zs s).2.getD i false=b:=by
     rw [wX]at J;rw [List.getD_eq_getElem?_getD,J];rfl
    have S: ∀z,set' (rG (i:Int) zs s).2 (i:Int) z=some ((rG (i:Int) zs s).2.set i z):=λz=>by unfold set';rw [if_pos ⟨by omega,by rw [ml];omega⟩,Int.toNat_natCast]
    simp only [zI];rw [yM hi,zU,yR O,zC,fQ hi (by omega)]
    cases x
    ·rw [Bool.not_false,zU,zC];rfl
    ·rw [Bool.not_true,zQ,l2,zC];rw [J,zC];unfold aDs;rw [if_pos rfl,hg]
     cases b
     ·rw [zQ,zC,S,zC,zC,Bool.false_or]
     ·rw [zU,zC,S,zC,zC,Bool.true_or])
   (λkk s k=>by
    obtain⟨Q,k⟩:=k;rw [List.drop_length,wY]at k;simp only [zI];rw [yN,zQ];exact⟨_,rfl,k⟩) (List.replicate P false) ⟨List.length_replicate,rfl⟩
  obtain⟨r,X,q2⟩:=q;rw [q2]at X;exact X
 unfold Fba;simp only [zI];rw [mk,zC,e];rfl
end
theorem aMz: ∀(cs:List Cond) (b:Nat) (c:Cond),dG b (cs++[c])=((dG b cs).1++kG (b+(dG b cs).1.length) c,(dG b cs).2++[((b+(dG b cs).1.length+(kG (b+(dG b cs).1.length) c).length-1:Nat):Int)])
 | [],b,c=>by
  rw [List.nil_append,dG,dG];simp [dG]
 |d::cs,b,c=>by
  rw [List.cons_append,dG,aMz cs,dG];have e:b+(kG b d).length+(dG (b+(kG b d).length) cs).1.length=b+(kG b d++(dG (b+(kG b d).length) cs).1).length:=by rw [List.length_append];omega
  rw [e,List.append_assoc,List.cons_append]
mutual
theorem aKe (b:Nat): ∀c:Cond,(kG b c).length=cN c
 |⟨k,nm,d,op,n,fr,cs⟩=>by
  rw [kG,List.length_append,List.length_singleton,aCh b cs,cN];omega
theorem aCh (b:Nat): ∀cs:List Cond,(dG b cs).1.length=cNs cs
 | []=>by rw [dG,cNs];rfl
 |c::cs=>by
  rw [dG,cNs,List.length_append,aKe b c,aCh _ cs]
end
def aZ (rl:Str->Int)(it:It):gI:=
 gI.mk it.c it.ks (if it.c.Kind=7 then rl it.c.Name else 0) 0 0 (if it.c.Kind=11\/it.c.Kind=12\/it.c.Kind=13\/it.c.Kind=5 then List.replicate it.c.Frames.toNat 0 else []) 0 0 0 0 [] []
theorem node0_I {E:En}{M:Mk}{rl:Str->Int}{it:It} (h:aOw it.c):mY E M 0 it.c it.ks (aZ rl it):=by
 refine⟨rfl,rfl,rfl,λq=>?_,λk q b=>?_,λk q b=>rfl⟩
 ·have f:=h.fr (.inl q);refine aVg (by omega) _ ?_ rfl rfl rfl rfl;show(if _ then _ else _)=_;rw [if_pos (by omega)]
 ·have f:=h.fr (.inr q);refine⟨?_,by rw [win_zero];rfl,by rw [win_zero];rfl⟩;have e:(aZ rl it).ring=List.replicate it.c.Frames.toNat 0:=by
   show(if _ then _ else _)=_;rw [if_pos (by omega)]
  rw [e];exact aMt (by omega)
def wQ (v:gG)(ns:List gI):gG:=gG.mk v.r v.names v.dens v.told v.frames v.phase ns v.first v.moves v.rules
structure AddI (v:gG)(rl:Str->Int)(c:Cond):Prop where
 fr:0<=c.Frames/\c.Frames<=4096
 ks:c.Kids.length<=200
 ru:c.Kind=7-> ∃k,Fal v.r c.Name=some k/\at' v.rules k=some (rl c.Name)
theorem ap240 {α:Type}(l:List α)(x:α)(h:l.length<=1000000):app' 240 l [x]=some (l++[x]):=by
 unfold app';rw [if_pos];constructor;simp [maxLen];omega;simp;omega
theorem ap8x {α:Type}(l:List α)(x:α)(h:l.length<=1000000):app' 8 l [x]=some (l++[x]):=by
 unfold app';rw [if_pos];constructor;simp [maxLen];omega;simp;omega
theorem aYj {v:gG}{rl:Str->Int} (p:Cond->Prop) (I: ∀c x:Cond,p c->x∈c.Kids->p x) (J: ∀c,p c->AddI v rl c): ∀(n:Nat) (c:Cond) (ns:List gI),dN c<=n->p c->ns.length+cN c<=1000000->
  Faz n (wQ v ns) c=some (((ns.length+cN c-1:Nat):Int),ns++(kG ns.length c).map (aZ rl))
 |0,c,ns,h,_,_=>by have:=uF c;omega
 |n+1,c,ns,hd,K,_=>by
  have w:=J c K;have S:=wI c;have X:=aIm c;have kids:Fds (Faz n) (wQ v ns) c (0,(wQ v ns).nodes,[])=some (ns++(dG ns.length c.Kids).1.map (aZ rl),(dG ns.length c.Kids).2):=by
   unfold Fds;have Y:((0:Int),(wQ v ns).nodes,([]:List Int))=(λ(i:Nat)=>((i:Int),ns++(dG ns.length (c.Kids.take i)).1.map (aZ rl),(dG ns.length (c.Kids.take i)).2)) 0:=by
    show _=((0:Int),ns++(dG ns.length (c.Kids.take 0)).1.map (aZ rl),(dG ns.length (c.Kids.take 0)).2);rw [List.take_zero,dG,List.map_nil,List.append_nil];rfl
   rw [Y];refine dV (λ(i:Nat)=>((i:Int),ns++(dG ns.length (c.Kids.take i)).1.map (aZ rl),(dG ns.length (c.Kids.take i)).2)) c.Kids _ (by have:=w.ks;omega) ?_ ?_
   ·intro kk i x B hi;have A:x∈c.Kids:=qS B;have O:c.Kids.take (i+1)=c.Kids.take i++[x]:=by rw [List.take_add_one,B];rfl
    have d1:=aJd A;have c1:cNs (c.Kids.take i)+cN x<=cNs c.Kids:=by
     have e1:cNs (c.Kids.take (i+1))<=cNs c.Kids:=by
      have q:=cNs_app (c.Kids.take (i+1)) (c.Kids.drop (i+1));rw [List.take_append_drop]at q;omega
     rw [O,cNs_app]at e1;have:cNs [x]=cN x:=by rw [cNs,cNs];omega
     omega
    have ll:(ns++(dG ns.length (c.Kids.take i)).1.map (aZ rl)).length=ns.length+cNs (c.Kids.take i):=by rw [List.length_append,List.length_map,aCh]
    have Q:=aYj p I J n x (ns++(dG ns.length (c.Kids.take i)).1.map (aZ rl)) (by omega) (I c x K A) (by rw [ll];omega);rw [ll]at Q;have C:Faz n (gG.mk (Rules.mk (wQ v ns).r.Phases (wQ v ns).r.Moves (wQ v ns).r.Rules) (wQ v ns).names (wQ v ns).dens (wQ v ns).told (wQ v ns).frames (wQ v ns).phase (ns++(dG ns.length (c.Kids.take i)).1.map (aZ rl)) (wQ v ns).first (wQ v ns).moves (wQ v ns).rules) x=_:=Q;have l2:(dG ns.length (c.Kids.take i)).2.length<=1000000:=by
     rw [(aMb ns.length (c.Kids.take i)).2.1,List.length_take];have:=w.ks;omega
    simp only [zI];rw [yM hi,zU,yR B,zC,C,zC,ap8x _ _ l2,zC,fQ hi (by have:=w.ks;omega),O,aMz];dsimp only;rw [aCh,aKe,List.map_append,List.append_assoc]
   ·intro kk;simp only [zI,List.take_length];rw [yN,zQ]
  show Fdc (Faz n) (wQ v ns) c=_;unfold Fdc;rw [kids,zC];have ln:(ns++(dG ns.length c.Kids).1.map (aZ rl)).length=ns.length+cNs c.Kids:=by rw [List.length_append,List.length_map,aCh]
  have mk:make' 1 c.Frames (0:Int)=some (List.replicate c.Frames.toNat 0):=by
   have:=w.fr;unfold make';rw [if_pos ⟨by omega,by omega,by omega⟩]
  have fin: ∀(a:Int) (b:List Int),a=(if c.Kind=7 then rl c.Name else 0)->b=(if c.Kind=11\/c.Kind=12\/c.Kind=13\/c.Kind=5 then List.replicate c.Frames.toNat 0 else [])->
    (gB (app' 240 (ns++(dG ns.length c.Kids).1.map (aZ rl)) [gI.mk (Cond.mk c.Kind c.Name c.Other c.Op c.N c.Frames c.Kids) (dG ns.length c.Kids).2 a 0 0 b 0 0 0 0 [] []]) λj=>
     gJ (j.length:Int) λo=>gJ (IntKind.i64.wrap (o-1)) λs=>some (s,j))=some (((ns.length+cN c-1:Nat):Int),ns++(kG ns.length c).map (aZ rl)):=by
   intro a b ha D;rw [ap240 _ _ (by rw [ln];omega),zC];simp only [zI];rw [jX,List.length_append,ln,List.length_singleton,Go.OB.wrap_i64 (by omega) (by omega),aRb,List.map_append,<-List.append_assoc,ha,D];refine congrArg some (Prod.ext ?_ rfl);show _=(_:Int);omega
  simp only [zI]
  by_cases u:c.Kind=7
  ·obtain⟨k,r1,r2⟩:=w.ru u;have G:Fal (Rules.mk (wQ v ns).r.Phases (wQ v ns).r.Moves (wQ v ns).r.Rules) c.Name=some k:=r1;have H:at' (wQ v ns).rules k=some (rl c.Name):=r2;rw [dT u,zU,G,zC,H,zC,zC];exact fin _ _ (by rw [if_pos u]) (by rw [if_neg (by omega)])
  ·rw [qD u,zQ]
   by_cases R:c.Kind=11\/c.Kind=12\/c.Kind=13\/c.Kind=5
   ·have g:gQ (decide (c.Kind=11)) (some (decide (c.Kind=11))) (gQ (decide (c.Kind=12)) (some (decide (c.Kind=12))) (gQ (decide (c.Kind=13)) (some (decide (c.Kind=13))) (some (decide (c.Kind=5)))))=some true:=by
     by_cases a:c.Kind=11<;>by_cases b:c.Kind=12<;>by_cases d:c.Kind=13<;>by_cases e:c.Kind=5<;>simp [gQ,a,b,d,e]<;>omega
    rw [g,zC,zU,mk,zC,zC];exact fin _ _ (by rw [if_neg u]) (by rw [if_pos R])
   ·have g:gQ (decide (c.Kind=11)) (some (decide (c.Kind=11))) (gQ (decide (c.Kind=12)) (some (decide (c.Kind=12))) (gQ (decide (c.Kind=13)) (some (decide (c.Kind=13))) (some (decide (c.Kind=5)))))=some false:=by
     rw [qD (by omega: ¬c.Kind=11),qD (by omega: ¬c.Kind=12),qD (by omega: ¬c.Kind=13),qD (by omega: ¬c.Kind=5)];rfl
    rw [g,zC,zQ,zC];exact fin _ _ (by rw [if_neg u]) (by rw [if_neg R])
where
 cNs_app: ∀a b:List Cond,cNs (a++b)=cNs a+cNs b
  | [],b=>by rw [List.nil_append,cNs];omega
  |x::a,b=>by rw [List.cons_append,cNs,cNs,cNs_app a b];omega
theorem aKw: ∀a b:List Cond,cNs (a++b)=cNs a+cNs b
 | [],b=>by rw [List.nil_append,cNs];omega
 |x::a,b=>by rw [List.cons_append,cNs,cNs,aKw a b];omega
theorem aKf: ∀(a cs:List Cond) (b:Nat),kJ b (a++cs)=kJ b a++kJ (b+(bW b a).length) cs
 | [],cs,b=>by simp [kJ,bW]
 |c::a,cs,b=>by
  rw [List.cons_append,kJ,kJ,aKf a cs,bW,List.cons_append,List.length_append]
  congr 3;omega
theorem nC: ∀(cs:List Cond) (b:Nat),(bW b cs).length=cNs cs
 | [],b=>by rw [bW,cNs];rfl
 |c::cs,b=>by rw [bW,cNs,List.length_append,aKe,nC cs]
theorem aPb (cs:List Cond)(b:Nat)(c:Cond):bW b (cs++[c])=bW b cs++kG (b+cNs cs) c:=by
 rw [aWg,bW,bW,List.append_nil,nC]
theorem aPn (cs:List Cond)(b:Nat)(c:Cond):kJ b (cs++[c])=kJ b cs++[((b+cNs cs+cN c-1:Nat):Int)]:=by
 rw [aKf,kJ,kJ,nC,aKe]
theorem ap16x {α:Type}(l:List α)(x:α)(h:l.length<=1000000):app' 16 l [x]=some (l++[x]):=by
 unfold app';rw [if_pos];constructor;simp [maxLen];omega;simp;omega
theorem empty1 (l:List fF) (j:l.length<=1000000):Ffu l (0,[],[])=some (l.map fF.Name,l.map λt=>t.Series.Den):=by
 unfold Ffu;refine dV (λ(i:Nat)=>((i:Int),(l.take i).map fF.Name,(l.take i).map λt=>t.Series.Den)) l _ (by omega) ?_ ?_;intro e i x d hi;have h:l.take (i+1)=l.take i++[x]:=by rw [List.take_add_one,d];rfl
 have b:(l.take i).length<=1000000:=by rw [List.length_take];omega
 simp only [zI];rw [yM hi,zU,yR d];simp only [zC];rw [ap16x _ _ (by rw [List.length_map];exact b),zC,ap8x _ _ (by rw [List.length_map];exact b),zC,fQ hi (by omega),h,List.map_append,List.map_append];rfl;intro e;simp only [zI,List.take_length];rw [yN,zQ]
theorem empty2 {r:Rules}{ph:List Bool}{nm:List Str}{ds:List Int}{rl:Str->Int} (p:Cond->Prop) (k: ∀c x:Cond,p c->x∈c.Kids->p x) (o: ∀v c,p c->AddI v rl c) (hm: ∀m∈r.Moves,p m.When) (u:r.Moves.length<=1000) (hd: ∀m∈r.Moves,dN m.When<=1000000) (w:cNs (r.Moves.map dI.When)<=1000000):
  Fhu r ph nm ds (0,[],[])=some ((bW 0 (r.Moves.map dI.When)).map (aZ rl),kJ 0 (r.Moves.map dI.When)):=by
 unfold Fhu;refine dV (λ(i:Nat)=>((i:Int),(bW 0 ((r.Moves.take i).map dI.When)).map (aZ rl),kJ 0 ((r.Moves.take i).map dI.When))) r.Moves _ (by omega) ?_ ?_
 ·intro s i x d hi;have b:=qS d;have h:(r.Moves.take (i+1)).map dI.When=(r.Moves.take i).map dI.When++[x.When]:=by rw [List.take_add_one,d,List.map_append];rfl
  have A:cNs ((r.Moves.take i).map dI.When)+cN x.When<=cNs (r.Moves.map dI.When):=by
   have q:=aKw ((r.Moves.take (i+1)).map dI.When) ((r.Moves.drop (i+1)).map dI.When);rw [<-List.map_append,List.take_append_drop,h,aKw]at q;have:cNs [x.When]=cN x.When:=by rw [cNs,cNs];omega
   omega
  have ll:((bW 0 ((r.Moves.take i).map dI.When)).map (aZ rl)).length=cNs ((r.Moves.take i).map dI.When):=by rw [List.length_map,nC]
  have j:=aYj (v:=gG.mk r nm ds [] 0 ph ((bW 0 ((r.Moves.take i).map dI.When)).map (aZ rl)) 0 (kJ 0 ((r.Moves.take i).map dI.When)) []) (rl:=rl) p k (o _) FU x.When ((bW 0 ((r.Moves.take i).map dI.When)).map (aZ rl)) (Nat.le_of_lt (mM (by have:=hd x b;omega))) (hm x b) (by rw [ll];omega);rw [ll]at j;have e:Fcp (gG.mk (Rules.mk r.Phases r.Moves r.Rules) nm ds [] 0 ph ((bW 0 ((r.Moves.take i).map dI.When)).map (aZ rl)) 0 (kJ 0 ((r.Moves.take i).map dI.When)) []) x.When=_:=j;have le:(kJ 0 ((r.Moves.take i).map dI.When)).length<=1000000:=by rw [aAc,List.length_map,List.length_take];omega
  simp only [zI];rw [yM hi,zU,yR d,zC,e,zC,ap8x _ _ le,zC,fQ hi (by omega),h,aPb,aPn];dsimp only;rw [List.map_append,Nat.zero_add]
 ·intro s;simp only [zI,List.take_length];rw [yN,zQ]
theorem empty3 {r:Rules}{ph:List Bool}{nm:List Str}{ds:List Int}{rl:Str->Int}{ns:List gI}{mv:List Int}{f0:Int}
  (o: ∀(i:Nat) (x:dA),r.Rules[i]? =some x-> ∃p:Cond->Prop,(∀c y:Cond,p c->y∈c.Kids->p y)/\p x.When/\ ∀(v:gG) c,v.r=r->v.rules=kJ ns.length ((r.Rules.take i).map dA.When)->p c->AddI v rl c)
  (C:r.Rules.length<=1000) (hd: ∀x∈r.Rules,dN x.When<=1000000) (D:ns.length+cNs (r.Rules.map dA.When)<=1000000):
  Fee r ph nm ds mv f0 (0,ns,[])=some (ns++(bW ns.length (r.Rules.map dA.When)).map (aZ rl),kJ ns.length (r.Rules.map dA.When)):=by
 unfold Fee;have s:((0:Int),ns,([]:List Int))=(λ(i:Nat)=>((i:Int),ns++(bW ns.length ((r.Rules.take i).map dA.When)).map (aZ rl),kJ ns.length ((r.Rules.take i).map dA.When))) 0:=by
  show _=((0:Int),ns++(bW ns.length ((r.Rules.take 0).map dA.When)).map (aZ rl),kJ ns.length ((r.Rules.take 0).map dA.When));rw [List.take_zero,List.map_nil,bW,kJ,List.map_nil,List.append_nil]
 rw [s];refine dV (λ(i:Nat)=>((i:Int),ns++(bW ns.length ((r.Rules.take i).map dA.When)).map (aZ rl),kJ ns.length ((r.Rules.take i).map dA.When))) r.Rules _ (by omega) ?_ ?_
 ·intro u i x b hi;have d:=qS b;obtain⟨p,w,A,B⟩:=o i x b;have j:(r.Rules.take (i+1)).map dA.When=(r.Rules.take i).map dA.When++[x.When]:=by rw [List.take_add_one,b,List.map_append];rfl
  have G:cNs ((r.Rules.take i).map dA.When)+cN x.When<=cNs (r.Rules.map dA.When):=by
   have q:=aKw ((r.Rules.take (i+1)).map dA.When) ((r.Rules.drop (i+1)).map dA.When);rw [<-List.map_append,List.take_append_drop,j,aKw]at q;have:cNs [x.When]=cN x.When:=by rw [cNs,cNs];omega
   omega
  have ll:(ns++(bW ns.length ((r.Rules.take i).map dA.When)).map (aZ rl)).length=ns.length+cNs ((r.Rules.take i).map dA.When):=by rw [List.length_append,List.length_map,nC]
  have k:=aYj (v:=gG.mk r nm ds [] 0 ph (ns++(bW ns.length ((r.Rules.take i).map dA.When)).map (aZ rl)) f0 mv (kJ ns.length ((r.Rules.take i).map dA.When))) (rl:=rl) p w (λc e=>B _ c rfl rfl e) FU x.When (ns++(bW ns.length ((r.Rules.take i).map dA.When)).map (aZ rl)) (Nat.le_of_lt (mM (by have:=hd x d;omega))) A (by rw [ll];omega);rw [ll]at k;have h:Fcp (gG.mk (Rules.mk r.Phases r.Moves r.Rules) nm ds [] 0 ph (ns++(bW ns.length ((r.Rules.take i).map dA.When)).map (aZ rl)) f0 mv (kJ ns.length ((r.Rules.take i).map dA.When))) x.When=_:=k;have le:(kJ ns.length ((r.Rules.take i).map dA.When)).length<=1000000:=by rw [aAc,List.length_map,List.length_take];omega
  simp only [zI];rw [yM hi,zU,yR b,zC,h,zC,ap8x _ _ le,zC,fQ hi (by omega),j,aPb,aPn];dsimp only;rw [List.map_append,List.append_assoc]
 ·intro u;simp only [zI,List.take_length];rw [yN,zQ]
end Go.Lf
