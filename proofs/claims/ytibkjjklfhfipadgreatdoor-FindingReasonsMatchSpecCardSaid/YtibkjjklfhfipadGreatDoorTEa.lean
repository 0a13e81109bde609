/- Laws that the claim stands on; no condition beyond those stated. -/
import Derived.Test.YtibkjjklfhfipadGreatDoorWTa
import Derived.Test.YtibkjjklfhfipadGreatDoorEPa
namespace Go.Lf
def win {α:Type}(f:Nat->α)(n t:Nat):List α:=((List.range t).map f).drop (t-n)
section
variable {α:Type}{f:Nat->α}{n t:Nat}
theorem aJa:(win f n t).length=min n t:=by unfold win;simp;omega
theorem win_zero:win f n 0=[]:=by unfold win;simp
theorem win_snoc (h:1<=n):win f (n-1) t++[f t]=win f n (t+1):=by
 unfold win;rw [List.range_succ,List.map_append,List.drop_append_of_le_length (by simp;omega),show t-(n-1)=t+1-n by omega];rfl
theorem aMq (b:n<=t)(h:1<=n):(win f n t).tail=win f (n-1) t:=by
 unfold win;rw [List.tail_drop];congr 1;omega
theorem aGy {m:Nat}(h:t<=n)(b:t<=m):win f n t=win f m t:=by
 unfold win;rw [show t-n=0 by omega,show t-m=0 by omega]
theorem win_congr {g:Nat->α}(h: ∀s,s<t->f s=g s):win f n t=win g n t:=by
 unfold win;congr 1;exact List.map_congr_left λs b=>h s (List.mem_range.1 b)
end
theorem cntL_win {f:Nat->Int}{fr:Int}{t:Nat}(b:1<=fr):aNv fr (win f fr.toNat (t+1))=win f (fr.toNat-1) (t+1):=by
 unfold aNv;rw [aJa];split;exact aMq (by omega) (by omega);exact aGy (by omega) (by omega)
structure En where
 told:Nat->List gY
 ps:Nat->List Bool
 rl:Nat->List Int
def En.m (E:En)(t:Nat):gQ:=gQ.mk (E.told t) (E.ps t) (E.rl t)
def En.tk (E:En)(tr:Int)(s:Nat):gY:=(at' (E.told s) tr).getD (gY.mk 0 false)
def prv (f:Nat->Int):Nat->Int
 |0=>0
 |t+1=>f t
def sS (a b:Nat->Int):Nat->Int
 |0=>uB (a 0) (b 0) 0
 |t+1=>uB (a (t+1)) (b (t+1)) (sS a b t)
theorem aOl (a b:Nat->Int)(t:Nat):uB (a t) (b t) (prv (sS a b) t)=sS a b t:=by
 cases t<;>rfl
mutual
def den (E:En):Nd->Nat->Int
 | .constant c=>λ_=>c
 | .number tr op n=>λt=>aQm (E.m t) tr op n
 | .pair a b da db op=>λt=>pairT (E.m t) a b da db op
 | .steady tr n fr _=>λt=>stT n fr (win (E.tk tr) fr.toNat (t+1))
 | .phase p=>λt=>mD (E.m t) p
 | .rule r=>λt=>aCs (E.m t) r
 | .not k=>λt=>opp (den E k t)
 | .group ks any=>λt=>(dens E ks t).foldl (uX (if any then 2 else 1) (if any then 1 else 2)) (if any then 1 else 2)
 | .count k n fr _ _=>λt=>aAz n fr (win (den E k) fr.toNat (t+1))
 | .since a b _ _=>sS (den E a) (den E b)
 | .rises k _ _=>λt=>aAv (den E k t) (prv (den E k) t)
def dens (E:En):List Nd->Nat->List Int
 | []=>λ_=>[]
 |k::ks=>λt=>den E k t::dens E ks t
end
mutual
def ndA (E:En)(t:Nat):Nd->Nd
 | .constant c=> .constant c
 | .number tr op n=> .number tr op n
 | .pair a b da db op=> .pair a b da db op
 | .steady tr n fr _=> .steady tr n fr (win (E.tk tr) (fr.toNat-1) t)
 | .phase p=> .phase p
 | .rule r=> .rule r
 | .not k=> .not (ndA E t k)
 | .group ks any=> .group (aHh E t ks) any
 | .count k n fr _ _=> .count (ndA E t k) n fr (win (den E k) (fr.toNat-1) t) (wV (win (den E k) (fr.toNat-1) t))
 | .since a b _ _=> .since (ndA E t a) (ndA E t b) (prv (sS (den E a) (den E b)) t) (decide (0<t))
 | .rises k _ _=> .rises (ndA E t k) (prv (den E k) t) (decide (0<t))
def aHh (E:En)(t:Nat):List Nd->List Nd
 | []=>[]
 |k::ks=>ndA E t k::aHh E t ks
end
theorem vG (E:En)(t:Nat): ∀l,dens E l t=l.map λk=>den E k t
 | []=>by rw [dens];rfl
 |k::ks=>by rw [dens];show den E k t::dens E ks t=_;rw [vG E t ks];rfl
theorem aUm (E:En)(t:Nat): ∀l,aHh E t l=l.map (ndA E t)
 | []=>by rw [aHh];rfl
 |k::ks=>by rw [aHh,aUm E t ks];rfl
structure MomE (E:En)(t:Nat)(P R:Nat)(m:gQ):Prop where
 told:m.told=E.told t
 ps: ∀p:Int,0<=p->p<P->mD m p=mD (E.m t) p
 rl: ∀r:Int,0<=r->r<R->aCs m r=aCs (E.m t) r
mutual
theorem aEz {E:En}{t P R:Nat}{m:gQ}(h:MomE E t P R m): ∀k,wfN m.told.length P R k->stp m (ndA E t k)=(den E k t,ndA E (t+1) k)
 | .constant _,_=>by rw [ndA,stp,den,ndA]
 | .number tr op n,_=>by rw [ndA,stp,den,ndA,aQf (m':=E.m t) h.told]
 | .pair a b _ _ op,_=>by rw [ndA,stp,den,ndA,aLf (m':=E.m t) h.told]
 | .steady tr n fr l,d=>by
  rw [wfN]at d;obtain⟨i,j,_⟩:=d;obtain⟨x,q,e⟩:=aXu (m:=m) (tr:=tr) (n:=n) (fr:=fr) (last:=win (E.tk tr) (fr.toNat-1) t) i j (by rw [aJa];omega);have o:x=E.tk tr t:=by unfold En.tk;rw [<-h.told,q];rfl
  have s:(win (E.tk tr) fr.toNat (t+1)).drop ((win (E.tk tr) (fr.toNat-1) t).length+2-fr.toNat)=win (E.tk tr) (fr.toNat-1) (t+1):=by
   rw [aJa]
   by_cases c:fr.toNat<=t+1
   ·rw [<-aMq c (by omega),<-List.drop_one];congr 1;omega
   ·rw [show min (fr.toNat-1) t+2-fr.toNat=0 by omega,List.drop_zero];exact aGy (by omega) (by omega)
  rw [ndA,stp,den,ndA,e,o,win_snoc (by omega),s]
 | .phase p,d=>by
  rw [wfN]at d;rw [ndA,stp,den,ndA,h.ps p d.1 d.2]
 | .rule r,d=>by
  rw [wfN]at d;rw [ndA,stp,den,ndA,h.rl r d.1 d.2]
 | .not k,d=>by
  rw [wfN]at d;rw [ndA,stp,den,ndA,aEz h k d]
 | .group ks any,d=>by
  rw [wfN]at d;obtain⟨u,w⟩:=stps_A h ks d.1;rw [ndA,stp,den,ndA,u,w]
 | .count k n fr l _,d=>by
  rw [wfN]at d;obtain⟨i,j,-⟩:=d;rw [ndA,stp,den,ndA,aEz h k i];dsimp only;rw [win_snoc (by omega),cntL_win j.1]
 | .since a b l g,d=>by
  rw [wfN]at d;rw [ndA,stp,den,ndA,aEz h a d.1,aEz h b d.2.1];dsimp only;rw [aOl];simp [prv]
 | .rises k l g,d=>by
  rw [wfN]at d;rw [ndA,stp,den,ndA,aEz h k d.1];simp [prv]
theorem stps_A {E:En}{t P R:Nat}{m:gQ}(h:MomE E t P R m): ∀ks,wfL m.told.length P R ks->(aNp m (aHh E t ks)).map Prod.fst=dens E ks t/\(aNp m (aHh E t ks)).map Prod.snd=aHh E (t+1) ks
 | [],_=>by rw [aHh,aNp,dens,aHh];exact⟨rfl,rfl⟩
 |k::ks,b=>by
  rw [wfL]at b;obtain⟨d,e⟩:=stps_A h ks b.2;rw [aHh,aNp,dens,aHh,List.map_cons,List.map_cons,d,e,aEz h k b.1];exact⟨rfl,rfl⟩
end
def EnW (f:Nat->List gY)(w:fA):En:=⟨f,λt=>pV (f t) (runT f w t).2,λt=>(nxt (f t) (runT f w t).2).1⟩
def mvA (E:En)(t:Nat)(x:fG):fG:=fG.mk x.from_ x.to (ndA E t x.when)
theorem bCa {E:En}{t:Nat}{m:gQ}(h:m.told=E.told t):MomE E t 0 0 m:=⟨h,λ_ b d=>by omega,λ_ b d=>by omega⟩
structure NewA (f:Nat->List gY)(w:fA):Prop where
 mv: ∀x∈w.moves,ndA (EnW f w) 0 x.when=x.when
 rl: ∀k∈w.rules,ndA (EnW f w) 0 k=k
theorem go_A {f:Nat->List gY}{w:fA}{T P:Nat} (e:WfW w T P) (h: ∀k,(f k).length=T) (t i:Nat) (k:Nd) (j:w.rules[i]? =some k):stp (gQ.mk (f t) ((EnW f w).ps t) (((EnW f w).rl t).take i)) (ndA (EnW f w) t k)=(den (EnW f w) k t,ndA (EnW f w) (t+1) k):=by
 refine aEz (P:=P) (R:=i) ⟨rfl,λ_ b d=>?_,λ_ b d=>?_⟩ k ?_;unfold mD En.m;rfl;unfold aCs En.m;dsimp only;rw [at_take b d];show wfN (f t).length P i k;rw [h t];exact(e.ru i k j).1
theorem run_A {f:Nat->List gY}{w:fA}{T P:Nat} (d:WfW w T P) (e: ∀k,(f k).length=T) (h:NewA f w) (t:Nat):(runT f w t).2.phases=w.phases/\(runT f w t).2.moves=w.moves.map (mvA (EnW f w) t)/\(runT f w t).2.rules=w.rules.map (ndA (EnW f w) t):=by
 induction t with
 |zero=>
  refine⟨rfl,?_,?_⟩
  ·show w.moves=_
   conv=>lhs;rw [<-List.map_id w.moves]
   refine List.map_congr_left λx b=>?_
   unfold mvA;rw [h.mv x b];rfl
  ·show w.rules=_
   conv=>lhs;rw [<-List.map_id w.rules]
   exact List.map_congr_left λx b=>(h.rl x b).symm
 |succ t o=>
  obtain⟨p,r,j⟩:=o;refine⟨p,?_,?_⟩
  ·show(runT f w t).2.moves.map (mvS (mv0 (f t)))=_;rw [r,List.map_map];refine List.map_congr_left λx b=>?_
   show fG.mk x.from_ x.to (stp (mv0 (f t)) (ndA (EnW f w) t x.when)).2=_;rw [aEz (bCa (m:=mv0 (f t)) rfl) x.when (by show wfN (f t).length 0 0 x.when;rw [e t];exact(d.mv x b).2.1)];rfl
  ·show(nxt (f t) (runT f w t).2).2.rules=_;apply List.ext_getElem?;intro i;rw [List.getElem?_map]
   cases hk:w.rules[i]? with
   |none=>
    rw [List.getElem?_eq_none_iff]at hk;rw [List.getElem?_eq_none_iff.2 (by rw [(aJb _ _).2,j,List.length_map];exact hk)];rfl
   |some k=>
    have q:(runT f w t).2.rules[i]? =some (ndA (EnW f w) t k):=by rw [j,List.getElem?_map,hk];rfl
    rw [(bAs q).2];exact congrArg some (congrArg Prod.snd (go_A d e t i k hk))
theorem rl_A {f:Nat->List gY}{w:fA}{T P:Nat}(b:WfW w T P)(d: ∀k,(f k).length=T)(h:NewA f w)(t:Nat):(EnW f w).rl t=w.rules.map λk=>den (EnW f w) k t:=by
 obtain⟨-,-,e⟩:=run_A b d h t;have j:=go_A b d t;show(nxt (f t) (runT f w t).2).1=_;apply List.ext_getElem?;intro i;rw [List.getElem?_map]
 cases hk:w.rules[i]? with
 |none=>
  rw [List.getElem?_eq_none_iff]at hk;rw [List.getElem?_eq_none_iff.2 (by rw [(aJb _ _).1,e,List.length_map];exact hk)];rfl
 |some k=>
  have q:(runT f w t).2.rules[i]? =some (ndA (EnW f w) t k):=by rw [e,List.getElem?_map,hk];rfl
  rw [(bAs q).1];exact congrArg some (congrArg Prod.fst (j i k hk))
def psB (E:En)(w:fA):Nat->List Bool
 |0=>w.possible
 |t+1=>E.ps t
theorem bDw (f:Nat->List gY)(w:fA)(t:Nat):(runT f w t).2.possible=psB (EnW f w) w t:=by
 cases t<;>rfl
theorem aTa {p:Int}{g g':fG->fG}(b: ∀x,(g x).from_=(g' x).from_/\(g x).to=(g' x).to)(c:fG->Int): ∀(l:List fG) (d:List Bool),qR p (l.map λx=>(g x,c x)) d=qR p (l.map λx=>(g' x,c x)) d
 | [],_=>rfl
 |x::l,d=>by
  rw [List.map_cons,List.map_cons,qR,qR,(b x).1,(b x).2,aTa b c l d,aTa b c l]
theorem ps_A {f:Nat->List gY}{w:fA}{T P:Nat}(h:WfW w T P)(o: ∀k,(f k).length=T)(p:NewA f w)(t:Nat):(EnW f w).ps t=wU (w.moves.map λx=>(x,den (EnW f w) x.when t)) (psB (EnW f w) w t) 0 (List.replicate P false):=by
 obtain⟨q,r,s⟩:=run_A h o p t;clear s;show pV (f t) (runT f w t).2=_;unfold pV;rw [q,r,h.ph,bDw,List.map_map,List.map_map,List.zip_map',poss_cg]
where
 poss_cg:wU (w.moves.map λx=>(((mvS (mv0 (f t)))∘mvA (EnW f w) t) x,((λx=>(stp (mv0 (f t)) x.when).1)∘mvA (EnW f w) t) x)) (psB (EnW f w) w t) 0 (List.replicate P false)=wU (w.moves.map λx=>(x,den (EnW f w) x.when t)) (psB (EnW f w) w t) 0 (List.replicate P false):=by
  have e:(w.moves.map λx=>(((mvS (mv0 (f t)))∘mvA (EnW f w) t) x,((λx=>(stp (mv0 (f t)) x.when).1)∘mvA (EnW f w) t) x))=w.moves.map λx=>(((mvS (mv0 (f t)))∘mvA (EnW f w) t) x,den (EnW f w) x.when t):=by
   refine List.map_congr_left λx u=>?_
   show(_,(stp (mv0 (f t)) (ndA (EnW f w) t x.when)).1)=_;rw [aEz (bCa (m:=mv0 (f t)) rfl) x.when (by show wfN (f t).length 0 0 x.when;rw [o t];exact(h.mv x u).2.1)]
  rw [e];have j: ∀(l:List Bool) (i:Nat) (d:List Bool),wU (w.moves.map λx=>(((mvS (mv0 (f t)))∘mvA (EnW f w) t) x,den (EnW f w) x.when t)) l i d=wU (w.moves.map λx=>(x,den (EnW f w) x.when t)) l i d:=by
   intro l
   induction l with
   |nil=>intro i d;rfl
   |cons _ l A=>
    intro i d;rw [wU,wU,A]
    congr 1
    unfold aDs;rw [aTa (g:=(mvS (mv0 (f t)))∘mvA (EnW f w) t) (g':=id) (λx=>⟨rfl,rfl⟩) (λx=>den (EnW f w) x.when t)];rfl
  exact j _ _ _
def rot {α:Type}(l:List α)(a:Nat):List α:=l.drop a++l.take a
section
variable {α:Type}{l:List α}{a:Nat}
theorem rot_cons (h:a<l.length):rot l a=l[a]::(rot l a).tail:=by
 unfold rot;rw [List.drop_eq_getElem_cons h];rfl
theorem rot_step (h:a<l.length) (x:α):rot (l.set a x) ((a+1)%l.length)=(rot l a).tail++[x]:=by
 have e:l.set a x=l.take a++x::l.drop (a+1):=List.set_eq_take_append_cons_drop.trans (if_pos h);have t:(rot l a).tail=l.drop (a+1)++l.take a:=by unfold rot;rw [List.drop_eq_getElem_cons h];rfl
 have b:(l.take a).length=a:=by rw [List.length_take];omega
 rw [t,e];unfold rot;by_cases c:a+1<l.length;rw [Nat.mod_eq_of_lt c,List.drop_append,List.take_append,b,List.drop_of_length_le (by omega:(l.take a).length<=a+1),List.take_of_length_le (by omega:(l.take a).length<=a+1),show a+1-a=1 by omega];simp;obtain d:a+1=l.length:=by omega
 rw [d,Nat.mod_self,List.drop_zero,List.take_zero,List.append_nil,List.drop_length];simp
end
structure aBl (f:Nat->Int)(n t:Nat)(ring:List Int)(a:Int):Prop where
 n1:1<=n
 len:ring.length=n
 a0:0<=a
 a1:a<n
 rt:rot ring a.toNat=List.replicate (n-t) 0++win f n t
theorem aLp {f:Nat->Int}{n:Nat}(h:1<=n):aBl f n 0 (List.replicate n 0) 0:=
 ⟨h,List.length_replicate,Int.le_refl _,by omega,by unfold rot;rw [win_zero];simp⟩
theorem aBl.at_ {f:Nat->Int}{n t:Nat}{b:List Int}{a:Int} (h:aBl f n t b a): ∃x,at' b a=some x/\rot b a.toNat=x::(rot b a.toNat).tail/\x=if t<n then 0 else f (t-n):=by
 have e:=h.len;have i:=h.a1;have d:=h.a0;have q:=rot_cons (l:=b) (a:=a.toNat) (by omega);refine⟨_,?_,q,?_⟩
 ·unfold at';rw [if_pos d];exact gE (by omega)
 ·have r:=h.rt;rw [q]at r;have n1:=h.n1;split
  ·rename_i c;rw [show n-t=(n-t-1)+1 by omega,List.replicate_succ,List.cons_append]at r;exact(List.cons.inj r).1
  ·rename_i c;rw [show n-t=0 by omega,List.replicate_zero,List.nil_append]at r;have:(win f n t)[0]? =some (f (t-n)):=by
    unfold win;rw [List.getElem?_drop,List.getElem?_map,List.getElem?_range (by omega)];simp
   rw [<-r]at this;exact oI this
theorem aBl.next {f:Nat->Int}{n t:Nat}{b:List Int}{a:Int} (h:aBl f n t b a):aBl f n (t+1) (b.set a.toNat (f t)) ((a+1)%(n:Int))/\rot (b.set a.toNat (f t)) ((a+1)%(n:Int)).toNat=(rot b a.toNat).tail++[f t]:=by
 have d:=h.len;have i:=h.a1;have j:=h.a0;have n1:=h.n1;have e:((a+1)%(n:Int)).toNat=(a.toNat+1)%b.length:=by
  rw [d];obtain⟨k,rfl⟩: ∃k:Nat,a=k:=⟨a.toNat,by omega⟩;rw [Int.toNat_natCast,<-Int.natCast_one,<-Int.natCast_add,<-Int.natCast_emod,Int.toNat_natCast]
 have s:=rot_step (l:=b) (a:=a.toNat) (by omega) (f t);rw [<-e]at s;refine⟨⟨n1,by rw [List.length_set];exact d,Int.emod_nonneg _ (by omega),Int.emod_lt_of_pos _ (by omega),?_⟩,s⟩;rw [s,h.rt]
 by_cases c:t<n
 ·rw [show n-t=(n-(t+1))+1 by omega,List.replicate_succ,List.cons_append,List.tail_cons,List.append_assoc]
  congr 1
  have q:=win_snoc (f:=f) (n:=n+1) (t:=t) (by omega);rw [Nat.add_sub_cancel]at q;rw [q,aGy (m:=n) (by omega) (by omega)]
 ·rw [show n-t=0 by omega,show n-(t+1)=0 by omega,List.replicate_zero,List.nil_append,List.nil_append,aMq (by omega) n1,win_snoc n1]
theorem cnt_rep (v:Int)(h:v≠0)(n:Nat)(l:List Int):cnt v (List.replicate n 0++l)=cnt v l:=by
 unfold cnt;rw [List.filter_append,List.filter_replicate,if_neg (by simpa using Ne.symm h),List.nil_append]
theorem aBl.cnt {f:Nat->Int}{n t:Nat}{b:List Int}{a:Int}(h:aBl f n t b a)(v:Int)(d:v≠0):Go.Lf.cnt v (rot b a.toNat)=Go.Lf.cnt v (win f n t):=by
 rw [h.rt,cnt_rep v d]
theorem nI {f:Nat->Int}{n t:Nat}(v:Int):0<=cnt v (win f n t)/\cnt v (win f n t)<=n:=by
 have:=cnt_le v (win f n t);rw [aJa]at this;omega
theorem stA_known (l:List gY):(stA l).1=cnt 1 (l.map λx=>if x.Known=true then 1 else 0):=by
 suffices q: ∀(l:List gY) (s:Int×Int×Int),(l.foldl stF s).1=s.1+cnt 1 (l.map λx=>if x.Known=true then 1 else 0)by
  unfold stA;rw [q];simp
 intro l
 induction l with
 |nil=>intro s;simp [cnt]
 |cons x l b=>
  intro s;rw [List.foldl_cons,b,List.map_cons,rF];unfold stF
  by_cases c:x.Known=true
  ·rw [if_pos c,if_pos c];simp;omega
  ·rw [if_neg c,if_neg c];simp
theorem stA_bd: ∀(l:List gY),((stA l).1=0->(stA l).2.1=0/\(stA l).2.2=0/\ ∀x∈l,x.Known=false)/\((stA l).1≠0->(∀x∈l,x.Known=true->(stA l).2.1<=x.N/\x.N<=(stA l).2.2)/\(∃x∈l,x.Known=true/\x.N=(stA l).2.1)/\ ∃x∈l,x.Known=true/\x.N=(stA l).2.2):=by
 intro l
 suffices q: ∀n,∀l:List gY,l.length=n->((stA l).1=0->(stA l).2.1=0/\(stA l).2.2=0/\ ∀x∈l,x.Known=false)/\((stA l).1≠0->(∀x∈l,x.Known=true->(stA l).2.1<=x.N/\x.N<=(stA l).2.2)/\(∃x∈l,x.Known=true/\x.N=(stA l).2.1)/\ ∃x∈l,x.Known=true/\x.N=(stA l).2.2)from q _ l rfl
 intro n
 induction n with
 |zero=>
  intro l k;obtain rfl:=List.eq_nil_of_length_eq_zero k;exact⟨λ_=>⟨rfl,rfl,by simp⟩,λh=>absurd rfl h⟩
 |succ n D=>
  intro l k;obtain⟨i,x,rfl⟩: ∃i x,l=i++[x]:=⟨l.dropLast,l.getLast (by intro h;subst h;simp at k),(List.dropLast_concat_getLast _).symm⟩;obtain⟨o,i2⟩:=D i (by simpa using k);rw [aTg];have p:=aSn i (0,0,0);change 0<=(stA i).1/\_ at p;generalize stA i=s at o i2 p;obtain⟨s1,s2,G⟩:=s;simp only at o i2 p;unfold stF
  by_cases c:x.Known=true
  ·rw [if_pos c];dsimp only;refine⟨λh=>by omega,λ_=>?_⟩
   by_cases z:s1=0
   ·obtain⟨-,-,i3⟩:=o z;rw [if_pos z,if_pos z];refine⟨λy b e=>?_,⟨x,by simp,c,by omega⟩,⟨x,by simp,c,by omega⟩⟩;rcases mA.1 b with h|h
    ·rw [i3 y h]at e;cases e
    ·obtain rfl:=mS.1 h;omega
   ·obtain⟨j,⟨r,m2,u,B⟩,⟨w,m3,A,C⟩⟩:=i2 z;rw [if_neg z,if_neg z];refine⟨λy b e=>?_,?_,?_⟩
    ·rcases mA.1 b with h|h
     ·have:=j y h e;omega
     ·obtain rfl:=mS.1 h;omega
    ·by_cases d:s2<=x.N
     ·exact⟨r,List.mem_append_left _ m2,u,by omega⟩
     ·exact⟨x,by simp,c,by omega⟩
    ·by_cases d:x.N<=G
     ·exact⟨w,List.mem_append_left _ m3,A,by omega⟩
     ·exact⟨x,by simp,c,by omega⟩
  ·rw [if_neg c];have H:x.Known=false:=by simpa using c
   refine⟨λh=>?_,λh=>?_⟩
   ·obtain⟨j,I,J⟩:=o h;refine⟨j,I,λy b=>?_⟩;rcases mA.1 b with q|q
    ·exact J y q
    ·obtain rfl:=mS.1 q;exact H
   ·obtain⟨j,⟨r,m2,u,B⟩,⟨w,m3,A,C⟩⟩:=i2 h;refine⟨λy b e=>?_,⟨r,List.mem_append_left _ m2,u,B⟩,⟨w,List.mem_append_left _ m3,A,C⟩⟩;rcases mA.1 b with q|q
    ·exact j y q e
    ·obtain rfl:=mS.1 q;exact absurd e c
open Go.OB
def dcd (b no:Prop) [Decidable b] [Decidable no]:Int:=if b then 2 else if no then 1 else 0
theorem and_f: ∀(l:List Int) (o:Int),(∀x∈l,0<=x/\x<=2)->0<=o/\o<=2->l.foldl (uX 1 2) o=if o=1\/0<cnt 1 l then 1 else if o=2/\cnt 2 l=l.length then 2 else 0
 | [],o,_,b=>by
  have h:cnt 1 ([]:List Int)=0:=rfl;have i:cnt 2 ([]:List Int)=0:=rfl;rw [List.foldl_nil,h,i,List.length_nil];rcases tri b with rfl|rfl|rfl<;>simp
 |x::l,o,e,b=>by
  have j:=e x List.mem_cons_self;have k: ∀y∈l,0<=y/\y<=2:=λy p=>e y (List.mem_cons_of_mem _ p)
  have q:=cnt_le 1 l;have c2:=cnt_le 2 l;have d:0<=uX 1 2 o x/\uX 1 2 o x<=2:=by
   unfold uX
   (repeat' split)<;>omega
  rw [List.foldl_cons,and_f l _ k d,rF,rF,List.length_cons];unfold uX;rcases tri j with rfl|rfl|rfl<;>rcases tri b with rfl|rfl|rfl<;>simp only [Int.reduceEq,if_true,if_false,false_or,true_or,false_and,true_and]<;>(repeat' split)<;>omega
theorem or_f: ∀(l:List Int) (o:Int),(∀x∈l,0<=x/\x<=2)->0<=o/\o<=2->l.foldl (uX 2 1) o=if o=2\/0<cnt 2 l then 2 else if o=1/\cnt 1 l=l.length then 1 else 0
 | [],o,_,b=>by
  have h:cnt 1 ([]:List Int)=0:=rfl;have i:cnt 2 ([]:List Int)=0:=rfl;rw [List.foldl_nil,h,i,List.length_nil];rcases tri b with rfl|rfl|rfl<;>simp
 |x::l,o,e,b=>by
  have j:=e x List.mem_cons_self;have k: ∀y∈l,0<=y/\y<=2:=λy p=>e y (List.mem_cons_of_mem _ p)
  have q:=cnt_le 1 l;have c2:=cnt_le 2 l;have d:0<=uX 2 1 o x/\uX 2 1 o x<=2:=by
   unfold uX
   (repeat' split)<;>omega
  rw [List.foldl_cons,or_f l _ k d,rF,rF,List.length_cons];unfold uX;rcases tri j with rfl|rfl|rfl<;>rcases tri b with rfl|rfl|rfl<;>simp only [Int.reduceEq,if_true,if_false,false_or,true_or,false_and,true_and]<;>(repeat' split)<;>omega
theorem bCj: ∀l:List Int,cnt 2 l+cnt 1 l<=l.length
 | []=>by simp [cnt]
 |x::l=>by
  have b:=bCj l;rw [rF,rF,List.length_cons]
  (repeat' split)<;>omega
theorem and_fold {l:List Int}(h: ∀x∈l,0<=x/\x<=2):l.foldl (uX 1 2) 2=dcd (cnt 2 l=l.length) (0<cnt 1 l):=by
 have b:=cnt_le 1 l;have c2:=bCj l;rw [and_f l 2 h (by omega)];unfold dcd
 (repeat' split)<;>omega
theorem or_fold {l:List Int}(h: ∀x∈l,0<=x/\x<=2):l.foldl (uX 2 1) 1=dcd (0<cnt 2 l) (cnt 1 l=l.length):=by
 rw [or_f l 1 h (by omega)];unfold dcd
 (repeat' split)<;>omega
theorem for_cnt {f:Nat->Int}{fr:Int}{t:Nat}(h:1<=fr):aAz fr fr (win f fr.toNat t)=dcd (cnt 2 (win f fr.toNat t)=fr) (0<cnt 1 (win f fr.toNat t)):=by
 have:=nI (f:=f) (n:=fr.toNat) (t:=t) 2;unfold aAz dcd;by_cases p:cnt 2 (win f fr.toNat t)=fr;rw [if_pos (by omega),if_pos p];rw [if_neg (by omega),if_neg p,show fr-fr=0 by omega]
theorem aYg {f:Nat->Int}{fr:Int}{t:Nat} (h:1<=fr):aAz 1 fr (win f fr.toNat t)=dcd (0<cnt 2 (win f fr.toNat t)) (cnt 1 (win f fr.toNat t)=fr):=by
 have:=nI (f:=f) (n:=fr.toNat) (t:=t) 1;unfold aAz dcd;by_cases p:0<cnt 2 (win f fr.toNat t);rw [if_pos (by omega),if_pos p];rw [if_neg (by omega),if_neg p];by_cases q:cnt 1 (win f fr.toNat t)=fr;rw [if_pos (by omega),if_pos q];rw [if_neg (by omega),if_neg q]
theorem since_dcd (a b last:Int):uB a b last=dcd (b=2\/a=2/\last=2) (b=1/\(a=1\/last=1)):=rfl
theorem count_dcd (n fr:Int)(l:List Int):aAz n fr l=dcd (n<=cnt 2 l) (fr-n<cnt 1 l):=rfl
theorem aGm {α:Type}{f:Nat->α}{n t:Nat}{x:α}:x∈win f n t↔ ∃s,s<t/\t<=s+n/\f s=x:=by
 unfold win;constructor
 ·intro h;obtain⟨_,e⟩:=List.getElem?_of_mem h;rw [List.getElem?_drop,List.getElem?_map,Option.map_eq_some_iff]at e;obtain⟨s,b,i⟩:=e;have d:=(gS.1 b).1;rw [List.length_range]at d;rw [List.getElem?_range d]at b;obtain rfl:=oI b;exact⟨_,d,by omega,i⟩
 ·rintro⟨s,b,i,rfl⟩;have:((((List.range t).map f).drop (t-n))[s-(t-n)]?)=some (f s):=by
   rw [List.getElem?_drop,List.getElem?_map,show t-n+(s-(t-n))=s by omega,List.getElem?_range b];rfl
  exact qS this
section
variable {α:Type}{fr nn:α->Int}{T:Nat->gY}{val:gY->Int}{F t:Nat}{low:List α}
structure rP (fr nn:α->Int)(T:Nat->gY)(val:gY->Int)(F t:Nat)(low:List α):Prop where
 el: ∀e∈low,∃s:Nat,fr e=(s:Int)/\s<t/\t<=s+F/\(T s).Known=true/\nn e=val (T s)
 pw:low.Pairwise λa b=>fr a<fr b/\nn a<nn b
 dm: ∀s:Nat,s<t->t<=s+F->(T s).Known=true-> ∃e∈low,(s:Int)<=fr e/\nn e<=val (T s)
theorem aPk:rP fr nn T val F 0 []:=⟨λ_ h=>by simp at h,.nil,λ_ h=>by omega⟩
theorem aGi (h:rP fr nn T val F t low):low.length<=F:=by
 have b: ∀(l:List α) (a:Int),(∀e∈l,a<=fr e/\fr e<t)->l.Pairwise (λx y=>fr x<fr y/\nn x<nn y)->a<=t->(l.length:Int)<=t-a:=by
  intro l
  induction l with
  |nil=>intro a _ _ o;simp;omega
  |cons e l p=>
   intro a i d o;rw [List.pairwise_cons]at d;have j:=i e List.mem_cons_self;have:=p (fr e+1) (λx k=>⟨by have:=d.1 x k;omega,(i x (List.mem_cons_of_mem _ k)).2⟩) d.2 (by omega);rw [List.length_cons];push_cast;omega
 have q:=b low ((t:Int)-F) (λe j=>by obtain⟨_,_,_,_,_⟩:=h.el e j;omega) h.pw (by omega);omega
theorem rP.push (h:rP fr nn T val F t low) (o:(T t).Known=true) {k:Nat} (p: ∀e∈low.take k,nn e<val (T t)) (r: ∀e∈low.drop k,val (T t)<=nn e) {x:α} (d:fr x=(t:Int)/\nn x=val (T t)):rP fr nn T val (F+1) (t+1) (low.take k++[x]):=by
 refine⟨λe u=>?_,?_,λs _ _ ks=>?_⟩
 ·rcases mA.1 u with q|q
  ·obtain⟨s,i,a2,a3,a4,a5⟩:=h.el e (List.mem_of_mem_take q);exact⟨s,i,by omega,by omega,a4,a5⟩
  ·obtain rfl:=mS.1 q;exact⟨t,d.1,by omega,by omega,o,d.2⟩
 ·rw [List.pairwise_append];refine⟨h.pw.sublist (List.take_sublist _ _),List.pairwise_singleton _ _,λa j _ A=>?_⟩;obtain rfl:=mS.1 A;obtain⟨s,i,a2,_⟩:=h.el a (List.mem_of_mem_take j);exact⟨by rw [d.1,i];omega,by rw [d.2];exact p a j⟩
 ·by_cases c:s=t
  ·subst c;exact⟨x,by simp,by rw [d.1];omega,by rw [d.2];omega⟩
  ·obtain⟨e,i,a2,a3⟩:=h.dm s (by omega) (by omega) ks;rw [<-List.take_append_drop k low]at i;rcases mA.1 i with q|q
   ·exact⟨e,List.mem_append_left _ q,a2,a3⟩
   ·exact⟨x,by simp,by rw [d.1];omega,by rw [d.2];have:=r e q;omega⟩
theorem rP.skip (h:rP fr nn T val F t low) (b:(T t).Known=false):rP fr nn T val (F+1) (t+1) low:=by
 refine⟨λe d=>?_,h.pw,λs _ _ ks=>?_⟩;obtain⟨s,j,a2,a3,a4,a5⟩:=h.el e d;exact⟨s,j,by omega,by omega,a4,a5⟩;by_cases c:s=t;subst c;rw [b]at ks;cases ks;exact h.dm s (by omega) (by omega) ks
theorem rP.old (h:rP fr nn T val (F+1) t low) {j:Nat} (i: ∀e∈low.take j,fr e<(t:Int)-F) (k: ∀e∈low.drop j,(t:Int)-F<=fr e):rP fr nn T val F t (low.drop j):=by
 refine⟨λe d=>?_,h.pw.sublist (List.drop_sublist _ _),λs o _ ks=>?_⟩
 ·obtain⟨s,b,a2,a3,a4,a5⟩:=h.el e (List.mem_of_mem_drop d);have:=k e d;exact⟨s,b,a2,by omega,a4,a5⟩
 ·obtain⟨e,b,a2,a3⟩:=h.dm s o (by omega) ks;rw [<-List.take_append_drop j low]at b;rcases mA.1 b with q|q
  ·have:=i e q;omega
  ·exact⟨e,q,a2,a3⟩
theorem rP.head {e:α}{l:List α} (h:rP fr nn T val F t (e::l)):(∃x∈win T F t,x.Known=true/\val x=nn e)/\ ∀x∈win T F t,x.Known=true->nn e<=val x:=by
 refine⟨?_,λx d i=>?_⟩
 ·obtain⟨s,b,a2,a3,a4,a5⟩:=h.el e List.mem_cons_self;exact⟨T s,aGm.2 ⟨s,a2,a3,rfl⟩,a4,a5.symm⟩
 ·obtain⟨s,b,a2,rfl⟩:=aGm.1 d;obtain⟨y,j,_,k⟩:=h.dm s b a2 i;rcases List.mem_cons.1 j with rfl|q
  ·exact k
  ·have:=(List.pairwise_cons.1 h.pw).1 y q;omega
theorem rP.nil (h:rP fr nn T val F t []): ∀x∈win T F t,x.Known=false:=by
 intro x b;obtain⟨s,d,a2,rfl⟩:=aGm.1 b
 cases e:(T s).Known with
 |false=>rfl
 |true=>obtain⟨y,i,_⟩:=h.dm s d a2 e;simp at i
end
theorem stT_eq {α:Type}{fr h:α->Int}{T:Nat->gY}{F t:Nat}{low d:List α}{n:Int} (w:rP fr h T gY.N F t low) (o:rP fr (λe=> -h e) T (λx=> -x.N) F t d) (X:0<=n) (A: ∀s,-1125899906842624<=(T s).N/\(T s).N<=1125899906842624):
  (low=[]↔d=[])/\stT n (F:Int) (win T F t)=match low,d with
   |a::_,b::_=>if n<h b-h a then 1 else if (stA (win T F t)).1=F then 2 else 0
   |_,_=>if (stA (win T F t)).1=F then 2 else 0:=by
 obtain⟨B,C⟩:=stA_bd (win T F t);unfold stT
 cases low with
 |nil=>
  have z:=w.nil;have p:(stA (win T F t)).1=0:=by
   by_cases c:(stA (win T F t)).1=0
   ·exact c
   ·obtain⟨-,⟨x,m,k,-⟩,-⟩:=C c;rw [z x m]at k;cases k
  obtain⟨q,r,-⟩:=B p;have hh:d=[]:=by
   cases d with
   |nil=>rfl
   |cons b l=>obtain⟨⟨x,m,k,-⟩,-⟩:=o.head;rw [z x m]at k;cases k
  subst hh;refine⟨Iff.rfl,?_⟩;rw [q,r,if_neg (by rw [Go.OB.wrap_i64 (by omega) (by omega)];omega)]
 |cons a l=>
  obtain⟨⟨x,j,i,_⟩,H⟩:=w.head
  cases d with
  |nil=>rw [o.nil x j]at i;cases i
  |cons b _=>
   obtain⟨⟨y,D,I,_⟩,J⟩:=o.head;refine⟨by simp,?_⟩;have p:(stA (win T F t)).1≠0:=λc=>by have:=(B c).2.2 x j;rw [this]at i;cases i
   obtain⟨G,⟨u,K,O,_⟩,⟨v,mv,Q,ev⟩⟩:=C p;have q:(stA (win T F t)).2.1=h a:=by
    have R:=G x j i;have S:=H u K O;omega
   have r:(stA (win T F t)).2.2=h b:=by
    have R:=G y D I;have S:=J v mv Q;omega
   obtain⟨s1,_,_,rfl⟩:=aGm.1 j;obtain⟨s2,_,_,rfl⟩:=aGm.1 D;have r1:=A s1;have r2:=A s2;rw [q,r,Go.OB.wrap_i64 (by omega) (by omega)]
structure It where
 c:Cond
 ks:List Int
mutual
def kJ (b:Nat):Cond->List It
 |⟨k,nm,d,op,n,fr,cs⟩=>(dF b cs).1++[⟨⟨k,nm,d,op,n,fr,cs⟩,(dF b cs).2⟩]
def dF (b:Nat):List Cond->List It×List Int
 | []=>([],[])
 |c::cs=>(kJ b c++(dF (b+(kJ b c).length) cs).1,((b+(kJ b c).length-1:Nat):Int)::(dF (b+(kJ b c).length) cs).2)
end
theorem aQy (b:Nat)(c:Cond):kJ b c=(dF b c.Kids).1++[⟨c,(dF b c.Kids).2⟩]:=by cases c;rw [kJ]
theorem aFw (b:Nat)(c:Cond):1<=(kJ b c).length:=by rw [aQy];simp
theorem aDh (b:Nat)(c:Cond):(kJ b c)[(kJ b c).length-1]? =some ⟨c,(dF b c.Kids).2⟩:=by
 rw [aQy,List.length_append,List.length_singleton,Nat.add_sub_cancel,List.getElem?_append_right (Nat.le_refl _),Nat.sub_self];rfl
def aHv (b:Nat)(L:List It):Prop:= ∀(g:Nat) (x:It),L[g]? =some x->x.ks.length=x.c.Kids.length/\ ∀(j:Nat) (k:Int),x.ks[j]? =some k-> ∃(d:Nat) (y:It),k=((b+d:Nat):Int)/\d<g/\L[d]? =some y/\x.c.Kids[j]? =some y.c
theorem aHv.app {b:Nat}{d s:List It} (w:aHv b d) (A:aHv (b+d.length) s):aHv b (d++s):=by
 intro g x e;by_cases c:g<d.length;rw [List.getElem?_append_left c]at e;obtain⟨h,a2⟩:=w g x e;refine⟨h,λj k i=>?_⟩;obtain⟨o,y,p,u,q,r⟩:=a2 j k i;exact⟨o,y,p,u,by rw [List.getElem?_append_left (by omega)];exact q,r⟩;rw [List.getElem?_append_right (by omega)]at e;obtain⟨h,a2⟩:=A _ x e;refine⟨h,λj k i=>?_⟩;obtain⟨o,y,p,u,q,r⟩:=a2 j k i;exact⟨d.length+o,y,by rw [p];congr 1;omega,by omega,by rw [List.getElem?_append_right (by omega),Nat.add_sub_cancel_left];exact q,r⟩
mutual
theorem aTb (b:Nat): ∀c:Cond,aHv b (kJ b c)
 |⟨k,nm,B,op,n,fr,cs⟩=>by
  obtain⟨q,r,s⟩:=aNh b cs;rw [kJ];intro g x d
  by_cases c:g<(dF b cs).1.length
  ·rw [List.getElem?_append_left c]at d;obtain⟨u,a2⟩:=q g x d;refine⟨u,λj k h=>?_⟩;obtain⟨i,y,o,e,p,w⟩:=a2 j k h;exact⟨i,y,o,e,by rw [List.getElem?_append_left (by omega)];exact p,w⟩
  ·have A:g=(dF b cs).1.length:=by
    have:=(gS.1 d).1;rw [List.length_append,List.length_singleton]at this;omega
   subst A;rw [List.getElem?_append_right (Nat.le_refl _),Nat.sub_self]at d;obtain rfl:=oI d;refine⟨r,λj k h=>?_⟩;obtain⟨i,y,o,e,p⟩:=s j k h;have:=(gS.1 e).1;exact⟨i,y,o,this,by rw [List.getElem?_append_left this];exact e,p⟩
theorem aNh (b:Nat): ∀cs:List Cond,aHv b (dF b cs).1/\(dF b cs).2.length=cs.length/\ ∀(j:Nat) (k:Int),(dF b cs).2[j]? =some k-> ∃(e:Nat) (y:It),k=((b+e:Nat):Int)/\(dF b cs).1[e]? =some y/\cs[j]? =some y.c
 | []=>by rw [dF];exact⟨λg x h=>by simp at h,rfl,λj k d=>by simp at d⟩
 |c::cs=>by
  have i:=aTb b c;obtain⟨o,p,q⟩:=aNh (b+(kJ b c).length) cs;have w:=aFw b c;rw [dF];refine⟨i.app o,by rw [List.length_cons,List.length_cons,p],λj k d=>?_⟩
  cases j with
  |zero=>
   rw [List.getElem?_cons_zero]at d;obtain rfl:=oI d;refine⟨(kJ b c).length-1,⟨c,(dF b c.Kids).2⟩,by congr 1;omega,?_,?_⟩
   ·rw [List.getElem?_append_left (by omega)];exact aDh b c
   ·rfl
  |succ j=>
   rw [List.getElem?_cons_succ]at d;obtain⟨e,y,r,s,u⟩:=q j k d;exact⟨(kJ b c).length+e,y,by rw [r];congr 1;omega,by rw [List.getElem?_append_right (by omega),Nat.add_sub_cancel_left];exact s,u⟩
end
mutual
theorem aFv {p:Cond->Prop}(d: ∀c x:Cond,p c->x∈c.Kids->p x)(b:Nat): ∀c:Cond,p c-> ∀x∈kJ b c,p x.c
 |⟨k,nm,o,op,n,fr,cs⟩,e,x,i=>by
  rw [kJ]at i;rcases mA.1 i with h|h
  ·exact aPi d b cs (λy j=>d _ y e j) x h
  ·obtain rfl:=mS.1 h;exact e
theorem aPi {p:Cond->Prop}(e: ∀c x:Cond,p c->x∈c.Kids->p x)(b:Nat): ∀cs:List Cond,(∀c∈cs,p c)-> ∀x∈(dF b cs).1,p x.c
 | [],_,x,d=>by rw [dF]at d;simp at d
 |c::cs,i,x,d=>by
  rw [dF]at d;rcases mA.1 d with h|h
  ·exact aFv e b c (i c List.mem_cons_self) x h
  ·exact aPi e _ cs (λy j=>i y (List.mem_cons_of_mem _ j)) x h
end
def aA (b:Nat):List Cond->List It
 | []=>[]
 |c::cs=>kJ b c++aA (b+(kJ b c).length) cs
def kH (b:Nat):List Cond->List Int
 | []=>[]
 |c::cs=>((b+(kJ b c).length-1:Nat):Int)::kH (b+(kJ b c).length) cs
theorem bDa: ∀(cs:List Cond) (b:Nat),aHv b (aA b cs)
 | [],b=>λg x d=>by simp [aA]at d
 |c::cs,b=>(aTb b c).app (bDa cs _)
theorem aXa: ∀(a cs:List Cond) (b:Nat),aA b (a++cs)=aA b a++aA (b+(aA b a).length) cs
 | [],cs,b=>by simp [aA]
 |c::a,cs,b=>by
  rw [List.cons_append,aA,aA,aXa a cs,List.append_assoc,List.length_append]
  congr 3;omega
theorem aCh: ∀(cs:List Cond) (b:Nat),(kH b cs).length=cs.length
 | [],_=>rfl
 |c::cs,b=>by rw [kH,List.length_cons,List.length_cons,aCh cs]
theorem aWb: ∀(cs:List Cond) (b j:Nat) (c:Cond),cs[j]? =some c-> ∃(k:Nat) (y:It),(kH b cs)[j]? =some ((b+k:Nat):Int)/\(aA b cs)[k]? =some y/\y.c=c
 | [],b,j,c,h=>by simp at h
 |d::cs,b,0,c,h=>by
  obtain rfl:d=c:=by simpa using h
  have p:=aFw b d;refine⟨(kJ b d).length-1,⟨d,(dF b d.Kids).2⟩,?_,?_,rfl⟩
  ·rw [kH,List.getElem?_cons_zero];congr 2;omega
  ·rw [aA,List.getElem?_append_left (by omega)];exact aDh b d
 |d::cs,b,j+1,c,h=>by
  obtain⟨k,y,e,i,o⟩:=aWb cs (b+(kJ b d).length) j c (by simpa using h);refine⟨(kJ b d).length+k,y,?_,?_,o⟩
  ·rw [kH,List.getElem?_cons_succ,e];congr 2;omega
  ·rw [aA,List.getElem?_append_right (by omega),Nat.add_sub_cancel_left];exact i
section
variable {α:Type}{ns:List α}{g:Nat}{x y z:α}
theorem aDi (h:g<ns.length):at' (ns.set g y) (g:Int)=some y:=by
 rw [rE,List.getElem?_set_self h]
theorem set_self (h:g<ns.length):set' ns (g:Int) y=some (ns.set g y):=by
 unfold set';rw [if_pos ⟨by omega,by omega⟩,Int.toNat_natCast]
theorem aDb (h:g<ns.length):set' (ns.set g y) (g:Int) z=some (ns.set g z):=by
 rw [set_self (by rw [List.length_set];exact h),List.set_set]
end
theorem jO (c:Cond):Cond.mk c.Kind c.Name c.Other c.Op c.N c.Frames c.Kids=c:=by cases c;rfl
theorem w8_truth {v:Int}(h:0<=v/\v<=2):IntKind.i8.wrap v=v:=by rcases tri h with rfl|rfl|rfl<;>rfl
theorem aRx (a b:Prop) [Decidable a] [Decidable b]:Fab (decide a) (decide b)=some (dcd a b):=by
 unfold Fab dcd;by_cases p:a;rw [dT p,zS,if_pos p];rw [qD p,zK,if_neg p];by_cases q:b;rw [dT q,zS,if_pos q];rw [qD q,zK,if_neg q]
theorem aMi {f:Nat->Int}{n t:Nat}{b:List Int}{a y:Int}(d:aBl f n t b a)(h:rot b a.toNat=y::(rot b a.toNat).tail)(v:Int)(e:v≠0):
  cnt v (win f n (t+1))=cnt v (win f n t)-(if y=v then 1 else 0)+(if f t=v then 1 else 0):=by
 obtain⟨i,j⟩:=d.next;have k:=i.cnt v e;rw [j,aQn]at k;have o:=d.cnt v e;rw [h,rF]at o;omega
theorem put_ok {ns:List gI}{g:Nat}{x:gI}{f:Nat->Int}{n t:Nat}(j:ns[g]? =some x)(b:aBl f n t x.ring x.at_)(K:x.yes=cnt 2 (win f n t))(p:x.no=cnt 1 (win f n t))(N:n<=1000000)(d: ∀s,0<=f s/\f s<=2):
  Fa5 ns (g:Int) (f t)=some (ns.set g (gI.mk x.c x.kids x.rule x.now x.kid (x.ring.set x.at_.toNat (f t)) ((x.at_+1)%(n:Int)) (cnt 2 (win f n (t+1))) (cnt 1 (win f n (t+1))) x.known x.low x.high)):=by
 obtain⟨y,k,o,q⟩:=b.at_;have h:0<=y/\y<=2:=by
  rw [q];split
  ·omega
  ·exact d _
 have c2:=aMi b o 2 (by decide);have r:=aMi b o 1 (by decide);have O:=nI (f:=f) (n:=n) (t:=t) 2;have Q:=nI (f:=f) (n:=n) (t:=t) 1;have u:=nI (f:=f) (n:=n) (t:=t+1) 2;have w:=nI (f:=f) (n:=n) (t:=t+1) 1;have i:g<ns.length:=(gS.1 j).1;have A:=b.len;have B:=b.a0;have R:=b.a1;have a0:at' ns (g:Int)=some x:=yQ j;have C:IntKind.i64.wrap y=y:=Go.OB.wrap_i64 (by omega) (by omega);have D:IntKind.i64.wrap (x.at_+1)=x.at_+1:=Go.OB.wrap_i64 (by omega) (by omega);have G:aNj (x.at_+1) (x.ring.length:Int)=some ((x.at_+1)%(n:Int)):=by
  unfold aNj;rw [if_neg (by omega),Int.tmod_eq_emod_of_nonneg (by omega),A]
 have H: ∀v,set' x.ring x.at_ v=some (x.ring.set x.at_.toNat v):=λv=>by unfold set';rw [if_pos ⟨B,by omega⟩]
 have I:=w8_truth (d t);have J:=d t;unfold Fa5;simp only [zH,a0,zC,k,C];generalize cnt 2 (win f n (t+1))=Y at *
 generalize cnt 1 (win f n (t+1))=Z at *
 generalize cnt 2 (win f n t)=Y0 at *
 generalize cnt 1 (win f n t)=Z0 at *
 generalize f t=v at *
 rcases tri h with e|e|e<;>subst e<;>rcases tri J with e|e|e<;>subst e<;>
  simp only [Int.reduceEq,if_true,if_false]at r c2<;>
  simp only [Int.reduceEq,decide_false,decide_true,zK,zS,zC,aDi i,set_self i,aDb i,a0,k,I,D,G,H]<;>
  (try simp (disch:=omega) only [Go.OB.wrap_i64])<;>
  (refine congrArg some (congrArg (ns.set g) ?_);rw [gI.mk.injEq];refine⟨jO _,rfl,rfl,rfl,rfl,rfl,rfl,?_,?_,rfl,rfl,rfl⟩<;>omega)
theorem aPq (f:Int) (l:List gU) (s:l.length<=9223372036854775807):Fa4 l f=some (l.dropWhile λe=>decide (e.frame<f)):=by
 have q: ∀(l:List gU) (n:Nat),l.length<n->dL (λd b=>
   gB (gJ (b.length:Int) λh=>
   gJ (decide (0<h)) λi=>
   gK i
   (gB (at' b 0) λj=>
   gJ (decide (j.frame<f)) λk=>
   some k)
   (some false)) λo=>
   gK o
   (gB (sub' b 1 (b.length:Int)) λp=>
   d p)
   (some b)) n l=some (l.dropWhile λe=>decide (e.frame<f)):=by
  intro l
  induction l with
  |nil=>
   intro n r;obtain⟨m,rfl⟩: ∃m,n=m+1:=⟨n-1,by omega⟩;rw [dL];rfl
  |cons e l u=>
   intro n r;obtain⟨m,rfl⟩: ∃m,n=m+1:=⟨n-1,by omega⟩;rw [dL];have a0:at' (e::l) 0=some e:=rfl;have s1:sub' (e::l) 1 (((e::l).length:Nat):Int)=some l:=by
    unfold sub';rw [if_pos ⟨by omega,by simp;omega,Int.le_refl _⟩];simp
   simp only [zH];rw [dT (by simp:(0:Int)<(((e::l).length:Nat):Int)),zS,a0,zC,zC];rw [List.dropWhile_cons]
   cases c:decide (e.frame<f)
   ·rw [zK];rfl
   ·rw [zS,s1,zC];exact u m (by simp at r;omega)
 unfold Fa4 Fil fF;rw [q l FU (nH s)];rfl
def aCe {α:Type}(p:α->Bool)(l:List α):List α:=(l.reverse.dropWhile p).reverse
theorem aWf {α:Type}(p:α->Bool):aCe p []=[]:=rfl
theorem aHc {α:Type}(p:α->Bool)(l:List α)(e:α):aCe p (l++[e])=if p e=true then aCe p l else l++[e]:=by
 unfold aCe;rw [List.reverse_append,List.reverse_singleton,List.singleton_append,List.dropWhile_cons];split;rfl;simp
theorem aGv {α:Type} (p:α->Bool) (l:List α): ∃k,aCe p l=l.take k/\(∀e∈l.drop k,p e=true)/\(aCe p l=[]\/ ∃m e,aCe p l=m++[e]/\p e=false):=by
 suffices q: ∀(n:Nat) (l:List α),l.length=n-> ∃k,aCe p l=l.take k/\(∀e∈l.drop k,p e=true)/\(aCe p l=[]\/ ∃m e,aCe p l=m++[e]/\p e=false)from q _ l rfl
 intro n
 induction n with
 |zero=>
  intro l i;obtain rfl:=List.eq_nil_of_length_eq_zero i;exact⟨0,rfl,by simp,.inl rfl⟩
 |succ n u=>
  intro l i;obtain⟨b,x,rfl⟩: ∃b x,l=b++[x]:=⟨l.dropLast,l.getLast (by intro h;subst h;simp at i),(List.dropLast_concat_getLast _).symm⟩;rw [aHc];have j:b.length=n:=by simpa using i
  cases c:p x
  ·refine⟨b.length+1,?_,?_,?_⟩
   ·rw [if_neg (by simp),List.take_of_length_le (by simp)]
   ·rw [List.drop_of_length_le (by simp)];simp
   ·exact .inr ⟨b,x,by simp,c⟩
  ·obtain⟨k,o,w,r⟩:=u b j;rw [if_pos rfl]
   by_cases s:k<=b.length
   ·refine⟨k,by rw [o,List.take_append_of_le_length s],?_,r⟩;intro e d;rw [List.drop_append_of_le_length s]at d;rcases mA.1 d with q|q
    ·exact w e q
    ·obtain rfl:=mS.1 q;exact c
   ·refine⟨b.length,by rw [o,List.take_of_length_le (by omega),List.take_left' rfl],?_,r⟩;intro e d;rw [List.drop_left' rfl]at d;obtain rfl:=mS.1 d;exact c
def aUw (x:gI)(l:List gU):gI:=gI.mk x.c x.kids x.rule x.now x.kid x.ring x.at_ x.yes x.no x.known l x.high
def aHw (x:gI)(l:List gU):gI:=gI.mk x.c x.kids x.rule x.now x.kid x.ring x.at_ x.yes x.no x.known x.low l
theorem aMn {α:Type}{ns:List α}{g:Nat}{x:α}(h:ns[g]? =some x):ns.set g x=ns:=by
 obtain⟨b,d⟩:=gS.1 h;rw [<-d];exact List.set_getElem_self b
theorem last_at {α:Type}(l:List α)(e:α)(h:l.length<=1000000):at' (l++[e]) (IntKind.i64.wrap (((l++[e]).length:Int)-1))=some e/\sub' (l++[e]) 0 (IntKind.i64.wrap (((l++[e]).length:Int)-1))=some l:=by
 have w:IntKind.i64.wrap (((l++[e]).length:Int)-1)=(l.length:Int):=by
  rw [List.length_append,List.length_singleton,Go.OB.wrap_i64 (by omega) (by omega)];omega
 rw [w];refine⟨by rw [rE,List.getElem?_append_right (Nat.le_refl _),Nat.sub_self];rfl,?_⟩;unfold sub';rw [if_pos ⟨by omega,by omega,by simp;omega⟩];simp
theorem popL_ok {ns:List gI}{g:Nat}{x:gI} (d:ns[g]? =some x) (v:gY) (r:x.low.length<=1000000):
  Fec (g:Int) v ns=some (ns.set g (aUw x (aCe (λe=>decide (v.N<=e.n)) x.low))):=by
 have H:g<ns.length:=(gS.1 d).1;unfold Fec fF;have s:x.low.length<FU:=nH (by omega)
 revert s
 generalize FU=n
 suffices q: ∀(m n:Nat) (l:List gU),l.length=m->m<=1000000->m<n-> ∀ns:List gI,ns[g]? =some (aUw x l)->dL _ n ns=some (ns.set g (aUw x (aCe (λe=>decide (v.N<=e.n)) l)))from λu=>q x.low.length n x.low rfl r u ns d
 intro m
 induction m with
 |zero=>
  intro n l o w A ns d;obtain⟨k,rfl⟩: ∃k,n=k+1:=⟨n-1,by omega⟩;obtain rfl:=List.eq_nil_of_length_eq_zero o;have a0:at' ns (g:Int)=some (aUw x []):=yQ d;rw [dL];simp only [zH,a0,zC];rw [aWf,aMn d];rfl
 |succ m B=>
  intro n l o w A ns d;obtain⟨k,rfl⟩: ∃k,n=k+1:=⟨n-1,by omega⟩;obtain⟨b,e,rfl⟩: ∃b e,l=b++[e]:=⟨l.dropLast,l.getLast (by intro h;subst h;simp at o),(List.dropLast_concat_getLast _).symm⟩;have p:b.length=m:=by simpa using o
  have i:g<ns.length:=(gS.1 d).1;have a0:at' ns (g:Int)=some (aUw x (b++[e])):=yQ d;obtain⟨C,a2⟩:=last_at b e (by omega);have D:decide ((0:Int)<((b++[e]).length:Int))=true:=dT (by simp);have G:(aUw x (b++[e])).low=b++[e]:=rfl;rw [dL,aHc];simp only [zH,a0,zC,G,D,zS,C,a2]
  cases c:decide (v.N<=e.n)
  ·rw [zK,if_neg (by simp),aMn d]
  ·rw [zS,set_self i,zC,if_pos rfl];have j:=B k b p (by omega) (by omega) (ns.set g (aUw x b)) (List.getElem?_set_self i);rw [List.set_set]at j;rw [<-j]
   congr 2
   show gI.mk (Cond.mk x.c.Kind x.c.Name x.c.Other x.c.Op x.c.N x.c.Frames x.c.Kids) _ _ _ _ _ _ _ _ _ _ _=_;rw [jO];rfl
theorem popH_ok {ns:List gI}{g:Nat}{x:gI} (d:ns[g]? =some x) (v:gY) (r:x.high.length<=1000000):
  Ffc (g:Int) v ns=some (ns.set g (aHw x (aCe (λe=>decide (e.n<=v.N)) x.high))):=by
 have H:g<ns.length:=(gS.1 d).1;unfold Ffc fF;have s:x.high.length<FU:=nH (by omega)
 revert s
 generalize FU=n
 suffices q: ∀(m n:Nat) (l:List gU),l.length=m->m<=1000000->m<n-> ∀ns:List gI,ns[g]? =some (aHw x l)->dL _ n ns=some (ns.set g (aHw x (aCe (λe=>decide (e.n<=v.N)) l)))from λu=>q x.high.length n x.high rfl r u ns d
 intro m
 induction m with
 |zero=>
  intro n l o w A ns d;obtain⟨k,rfl⟩: ∃k,n=k+1:=⟨n-1,by omega⟩;obtain rfl:=List.eq_nil_of_length_eq_zero o;have a0:at' ns (g:Int)=some (aHw x []):=yQ d;rw [dL];simp only [zH,a0,zC];rw [aWf,aMn d];rfl
 |succ m B=>
  intro n l o w A ns d;obtain⟨k,rfl⟩: ∃k,n=k+1:=⟨n-1,by omega⟩;obtain⟨b,e,rfl⟩: ∃b e,l=b++[e]:=⟨l.dropLast,l.getLast (by intro h;subst h;simp at o),(List.dropLast_concat_getLast _).symm⟩;have p:b.length=m:=by simpa using o
  have i:g<ns.length:=(gS.1 d).1;have a0:at' ns (g:Int)=some (aHw x (b++[e])):=yQ d;obtain⟨C,a2⟩:=last_at b e (by omega);have D:decide ((0:Int)<((b++[e]).length:Int))=true:=dT (by simp);have G:(aHw x (b++[e])).high=b++[e]:=rfl;rw [dL,aHc];simp only [zH,a0,zC,G,D,zS,C,a2]
  cases c:decide (e.n<=v.N)
  ·rw [zK,if_neg (by simp),aMn d]
  ·rw [zS,set_self i,zC,if_pos rfl];have j:=B k b p (by omega) (by omega) (ns.set g (aHw x b)) (List.getElem?_set_self i);rw [List.set_set]at j;rw [<-j]
   congr 2
   show gI.mk (Cond.mk x.c.Kind x.c.Name x.c.Other x.c.Op x.c.N x.c.Frames x.c.Kids) _ _ _ _ _ _ _ _ _ _ _=_;rw [jO];rfl
def knF (T:Nat->gY)(s:Nat):Int:=if (T s).Known=true then 1 else 0
structure aFn (T:Nat->gY)(F t:Nat)(x:gI):Prop where
 rg:aBl (knF T) F t x.ring x.at_
 kn:x.known=cnt 1 (win (knF T) F t)
 lo:rP gU.frame gU.n T gY.N F t x.low
 hi:rP gU.frame (λe=> -e.n) T (λx=> -x.N) F t x.high
theorem ap16e (l:List gU)(e:gU)(h:l.length<=2000000):app' 16 l [e]=some (l++[e]):=by
 unfold app';rw [if_pos];constructor;simp [maxLen];omega;simp;omega
theorem pop_lo {T:Nat->gY}{F t:Nat}{l:List gU} (h:rP gU.frame gU.n T gY.N F t l) (o:(T t).Known=true):rP gU.frame gU.n T gY.N (F+1) (t+1) (aCe (λe=>decide ((T t).N<=e.n)) l++[⟨(t:Int),(T t).N⟩]):=by
 obtain⟨k,j,p,d⟩:=aGv (λe:gU=>decide ((T t).N<=e.n)) l;rw [j];refine h.push o (λe b=>?_) (λe b=>of_decide_eq_true (p e b)) ⟨rfl,rfl⟩;have i:=h.pw.sublist (List.take_sublist k l);rw [<-j]at i b;rcases d with d|⟨m,z,d,r⟩
 ·rw [d]at b;cases b
 ·rw [d]at i b;have s:z.n<(T t).N:=by have:=of_decide_eq_false r;omega
  rcases mA.1 b with q|q
  ·have:=((List.pairwise_append.1 i).2.2 e q z (by simp)).2;omega
  ·obtain rfl:=mS.1 q;exact s
theorem pop_hi {T:Nat->gY}{F t:Nat}{l:List gU} (h:rP gU.frame (λe=> -e.n) T (λx=> -x.N) F t l) (o:(T t).Known=true):rP gU.frame (λe=> -e.n) T (λx=> -x.N) (F+1) (t+1) (aCe (λe=>decide (e.n<=(T t).N)) l++[⟨(t:Int),(T t).N⟩]):=by
 obtain⟨k,j,p,d⟩:=aGv (λe:gU=>decide (e.n<=(T t).N)) l;rw [j];refine h.push o (λe b=>?_) (λe b=>by have:=of_decide_eq_true (p e b);omega) ⟨rfl,rfl⟩;have i:=h.pw.sublist (List.take_sublist k l);rw [<-j]at i b;rcases d with d|⟨m,z,d,r⟩
 ·rw [d]at b;cases b
 ·rw [d]at i b;have s:(T t).N<z.n:=by have:=of_decide_eq_false r;omega
  rcases mA.1 b with q|q
  ·have:=((List.pairwise_append.1 i).2.2 e q z (by simp)).2;omega
  ·obtain rfl:=mS.1 q;omega
theorem aUo {α:Type}(p:α->Bool)(l:List α):(aCe p l).length<=l.length:=by
 obtain⟨_,b,-⟩:=aGv p l;rw [b,List.length_take];omega
theorem tw_mem {α:Type}{p:α->Bool}: ∀{l:List α}{e:α},e∈l.takeWhile p->p e=true
 | [],e,h=>by simp at h
 |x::l,e,h=>by
  rw [List.takeWhile_cons]at h
  cases c:p x
  ·rw [c]at h;simp at h
  ·rw [c]at h;rcases List.mem_cons.1 h with rfl|q
   ·exact c
   ·exact tw_mem q
theorem dw_head {α:Type}{p:α->Bool}: ∀{l:List α}{z:α}{m:List α},l.dropWhile p=z::m->p z=false
 | [],z,m,h=>by simp at h
 |x::l,z,m,h=>by
  rw [List.dropWhile_cons]at h
  cases c:p x
  ·rw [c]at h;obtain rfl:=(List.cons.inj h).1;exact c
  ·rw [c]at h;exact dw_head h
theorem aRk {nn:gU->Int}{T:Nat->gY}{val:gY->Int}{F t:Nat}{l:List gU} (h:rP gU.frame nn T val (F+1) t l):rP gU.frame nn T val F t (l.dropWhile λe=>decide (e.frame<(t:Int)-F)):=by
 have i:l.takeWhile (λe=>decide (e.frame<(t:Int)-F))++l.dropWhile (λe=>decide (e.frame<(t:Int)-F))=l:=List.takeWhile_append_dropWhile;generalize ha:l.takeWhile (λe=>decide (e.frame<(t:Int)-F))=a at i;generalize hb:l.dropWhile (λe=>decide (e.frame<(t:Int)-F))=b at i;subst i;have q:=h.old (j:=a.length) (λe d=>?_) (λe d=>?_)
 ·rw [List.drop_left' rfl]at q;exact q
 ·rw [List.take_left' rfl]at d;rw [<-ha]at d;have:=tw_mem d;exact of_decide_eq_true this
 ·rw [List.drop_left' rfl]at d
  cases b with
  |nil=>cases d
  |cons z m=>
   have k: ¬z.frame<(t:Int)-F:=by
    have:=dw_head hb;exact of_decide_eq_false this
   rcases List.mem_cons.1 d with rfl|hm
   ·omega
   ·have:=((List.pairwise_cons.1 (List.pairwise_append.1 h.pw).2.1).1 e hm).1;omega
def stMid (A:gG)(B:Int)(e:gY)(b:gI)(i:Int):Option (List gI):=
 gK e.Known
 (gJ (IntKind.i64.wrap (i+1)) λj=>
 gB (gB (set' b.ring b.at_ 1) λk=>
 gB (set' A.nodes B (gI.mk (Cond.mk b.c.Kind b.c.Name b.c.Other b.c.Op b.c.N b.c.Frames b.c.Kids) b.kids b.rule b.now b.kid k b.at_ b.yes b.no j b.low b.high)) λo=>
 Fec B e o) λp=>
 gB (Ffc B e p) λh=>
 gB (at' h B) λd=>
 gJ ([gU.mk A.frames e.N]:List gU) λ_=>
 gJ ([gU.mk A.frames e.N]:List gU) λ_=>
 gB (app' 16 d.low ([gU.mk A.frames e.N]:List gU)) λq=>
 gB (app' 16 d.high ([gU.mk A.frames e.N]:List gU)) λr=>
 gB (set' h B (gI.mk (Cond.mk d.c.Kind d.c.Name d.c.Other d.c.Op d.c.N d.c.Frames d.c.Kids) d.kids d.rule d.now d.kid d.ring d.at_ d.yes d.no d.known q r)) λs=>
 some s)
 (gB (set' b.ring b.at_ 0) λu=>
 gB (set' A.nodes B (gI.mk (Cond.mk b.c.Kind b.c.Name b.c.Other b.c.Op b.c.N b.c.Frames b.c.Kids) b.kids b.rule b.now b.kid u b.at_ b.yes b.no i b.low b.high)) λw=>
 some w)
def bAb (Q:gG)(O:Int)(h:List gI):Option (Int×List gI):=
 gB (at' h O) λb=>
 gJ (IntKind.i64.wrap (b.at_+1)) λo=>
 gJ (b.ring.length:Int) λp=>
 gB (aNj o p) λj=>
 gJ (IntKind.i64.wrap (Q.frames-b.c.Frames)) λq=>
 gJ (IntKind.i64.wrap (q+1)) λr=>
 gJ (IntKind.i64.wrap (Q.frames-b.c.Frames)) λs=>
 gJ (IntKind.i64.wrap (s+1)) λu=>
 gB (Fa4 b.low r) λd=>
 gB (Fa4 b.high u) λi=>
 gB (gJ (d.length:Int) λw=>
 gJ (decide (0<w)) λA=>
 gK A
 (gB (at' i 0) λB=>
 gB (at' d 0) λC=>
 gJ (IntKind.i64.wrap (B.n-C.n)) λD=>
 gJ (decide (b.c.N<D)) λG=>
 gB (set' h O (gI.mk (Cond.mk b.c.Kind b.c.Name b.c.Other b.c.Op b.c.N b.c.Frames b.c.Kids) b.kids b.rule b.now b.kid b.ring j b.yes b.no b.known d i)) λH=>
 some (G,H))
 (gB (set' h O (gI.mk (Cond.mk b.c.Kind b.c.Name b.c.Other b.c.Op b.c.N b.c.Frames b.c.Kids) b.kids b.rule b.now b.kid b.ring j b.yes b.no b.known d i)) λI=>
 some (false,I))) λ⟨J,e⟩=>
 gK J
 (some (1,e))
 (gB (at' e O) λk=>
 gJ (decide (k.known=k.c.Frames)) λK=>
 gK K
 (some (2,e))
 (some (0,e)))
theorem aYd (v:gG)(q:Int):Fcy v q=gB (at' v.nodes q) λe=>gB (Fag v e.c.Name) λ⟨h,_⟩=>gB (at' v.nodes q) λb=>gB (at' b.ring b.at_) λd=>gB (stMid v q h b (IntKind.i64.wrap (b.known-IntKind.i64.wrap d))) (bAb v q):=rfl
theorem knF_rng (T:Nat->gY)(s:Nat):0<=knF T s/\knF T s<=1:=by unfold knF;split<;>omega
theorem mid6 {v:gG}{g:Nat}{x:gI}{T:Nat->gY}{F t:Nat}{y:Int} (p:v.nodes[g]? =some x) (b:aFn T F t x) (j:v.frames=(t:Int)) (C:F<=1000000) (q:rot x.ring x.at_.toNat=y::(rot x.ring x.at_.toNat).tail) (r:0<=y/\y<=1):
  ∃lo hi,stMid v (g:Int) (T t) x (IntKind.i64.wrap (x.known-y))=some (v.nodes.set g (gI.mk x.c x.kids x.rule x.now x.kid (x.ring.set x.at_.toNat (knF T t)) x.at_ x.yes x.no (cnt 1 (win (knF T) F (t+1))) lo hi))/\
   rP gU.frame gU.n T gY.N (F+1) (t+1) lo/\rP gU.frame (λe=> -e.n) T (λx=> -x.N) (F+1) (t+1) hi:=by
 have d:g<v.nodes.length:=(gS.1 p).1;have i:=b.rg;have s:=i.a0;have D:=i.a1;have G:=i.len;have h:=aMi i q 1 (by decide);have H:=nI (f:=knF T) (n:=F) (t:=t) 1;have u:=nI (f:=knF T) (n:=F) (t:=t+1) 1;have kn:=b.kn;have l1:=aGi b.lo;have l2:=aGi b.hi;have o: ∀z,set' x.ring x.at_ z=some (x.ring.set x.at_.toNat z):=λz=>by unfold set';rw [if_pos ⟨s,by omega⟩]
 have w:IntKind.i64.wrap (x.known-y)=x.known-y:=Go.OB.wrap_i64 (by omega) (by omega);rw [w];unfold stMid
 cases hk:(T t).Known
 ·have k:knF T t=0:=by unfold knF;rw [hk];rfl
  rw [k]at h⊢;refine⟨x.low,x.high,?_,b.lo.skip hk,b.hi.skip hk⟩;rw [zK,o,zC,set_self d,zC,jO];refine congrArg some (congrArg (v.nodes.set g) ?_);rw [gI.mk.injEq];refine⟨rfl,rfl,rfl,rfl,rfl,rfl,rfl,rfl,rfl,?_,rfl,rfl⟩;have:(if y=1 then(1:Int)else 0)=y:=by split<;>omega
  rw [this]at h;simp at h;omega
 ·have k:knF T t=1:=by unfold knF;rw [hk];rfl
  rw [k]at h⊢;have A:IntKind.i64.wrap (x.known-y+1)=x.known-y+1:=Go.OB.wrap_i64 (by omega) (by omega);have B:x.known-y+1=cnt 1 (win (knF T) F (t+1)):=by
   have:(if y=1 then(1:Int)else 0)=y:=by split<;>omega
   rw [this,if_pos rfl]at h;omega
  refine⟨_,_,?_,pop_lo b.lo hk,pop_hi b.hi hk⟩;have I:=aUo (λe:gU=>decide ((T t).N<=e.n)) x.low;have J:=aUo (λe:gU=>decide (e.n<=(T t).N)) x.high;simp only [zH];rw [zS,o,zC,set_self d,zC,A,B,jO];rw [popL_ok (List.getElem?_set_self d) (T t) (by show x.low.length<=_;omega),zC,List.set_set];rw [popH_ok (List.getElem?_set_self d) (T t) (by show x.high.length<=_;omega),zC,List.set_set,aDi d,zC];unfold aUw aHw;dsimp only;rw [ap16e _ _ (by omega),zC,ap16e _ _ (by omega),zC,aDb d,zC,jO,j]
theorem win_map {α β:Type}(h:α->β)(f:Nat->α)(n t:Nat):(win f n t).map h=win (λs=>h (f s)) n t:=by
 unfold win;rw [List.map_drop,List.map_map];rfl
theorem known_cnt (T:Nat->gY)(F t:Nat):(stA (win T F t)).1=cnt 1 (win (knF T) F t):=by
 rw [stA_known,win_map];rfl
def stN (m:gI)(F t:Nat):gI:=
 gI.mk m.c m.kids m.rule m.now m.kid m.ring ((m.at_+1)%(F:Int)) m.yes m.no m.known (m.low.dropWhile λe=>decide (e.frame<((t+1:Nat):Int)-F)) (m.high.dropWhile λe=>decide (e.frame<((t+1:Nat):Int)-F))
theorem tail_ok {v:gG}{ns:List gI}{g:Nat}{m:gI}{T:Nat->gY}{F t:Nat} (hm:ns[g]? =some m) (h:v.frames=(t:Int)) (i:m.c.Frames=(F:Int)) (Y:1<=F/\F<=1000000) (ht:t<=1000000000)
  (D:m.ring.length=F) (ha:0<=m.at_/\m.at_<(F:Int)) (G:m.known=cnt 1 (win (knF T) F (t+1))) (r:rP gU.frame gU.n T gY.N (F+1) (t+1) m.low) (u:rP gU.frame (λe=> -e.n) T (λx=> -x.N) (F+1) (t+1) m.high)
  (H:0<=m.c.N) (j: ∀s,-1125899906842624<=(T s).N/\(T s).N<=1125899906842624):
  bAb v (g:Int) ns=some (stT m.c.N (F:Int) (win T F (t+1)),ns.set g (stN m F t)):=by
 have d:g<ns.length:=(gS.1 hm).1;have a0:at' ns (g:Int)=some m:=yQ hm;have I:IntKind.i64.wrap (m.at_+1)=m.at_+1:=Go.OB.wrap_i64 (by omega) (by omega);have J:aNj (m.at_+1) (m.ring.length:Int)=some ((m.at_+1)%(F:Int)):=by
  unfold aNj;rw [if_neg (by omega),Int.tmod_eq_emod_of_nonneg (by omega),D]
 have K:IntKind.i64.wrap (IntKind.i64.wrap (v.frames-m.c.Frames)+1)=((t+1:Nat):Int)-F:=by
  rw [h,i,Go.OB.wrap_i64 (n:=(t:Int)-F) (by omega) (by omega),Go.OB.wrap_i64 (by omega) (by omega)];omega
 have w:=aRk r;have A:=aRk u;have i1:=aGi r;have i2:=aGi u;have O:=aPq (((t+1:Nat):Int)-F) m.low (by omega);have Q:=aPq (((t+1:Nat):Int)-F) m.high (by omega);obtain⟨B,C⟩:=stT_eq (n:=m.c.N) w A H j;rw [known_cnt,<-G]at C;have hd: ∀e∈m.high.dropWhile (λe=>decide (e.frame<((t+1:Nat):Int)-F)),-1125899906842624<=e.n/\e.n<=1125899906842624:=λe k=>by
  obtain⟨s,-,-,-,-,q⟩:=A.el e k;have:=j s;omega
 have o: ∀e∈m.low.dropWhile (λe=>decide (e.frame<((t+1:Nat):Int)-F)),-1125899906842624<=e.n/\e.n<=1125899906842624:=λe k=>by
  obtain⟨s,-,-,-,-,q⟩:=w.el e k;have:=j s;omega
 rw [C];unfold bAb stN;simp only [zH,a0,zC,I,J,K,O,Q,jO];generalize m.low.dropWhile (λe=>decide (e.frame<((t+1:Nat):Int)-F))=L at *
 generalize m.high.dropWhile (λe=>decide (e.frame<((t+1:Nat):Int)-F))=p at *
 cases L with
 |nil=>
  obtain rfl:=B.1 rfl;rw [qD (by simp),zK,set_self d,zC,zC];dsimp only;rw [zK,aDi d,zC];dsimp only;rw [i,xG];split<;>rfl
 |cons a L=>
  cases p with
  |nil=>exact absurd (B.2 rfl) (by simp)
  |cons b p=>
   have r1:=hd b (by simp);have r2:=o a (by simp);have R:decide ((0:Int)<((a::L).length:Int))=true:=dT (by simp);have S:at' (b::p) 0=some b:=rfl;have X:at' (a::L) 0=some a:=rfl;rw [R,zS,S,zC,X,zC,set_self d,zC,zC,Go.OB.wrap_i64 (n:=b.n-a.n) (by omega) (by omega)];dsimp only;rw [xG];split
   ·rfl
   ·rw [aDi d,zC];dsimp only;rw [i,xG];split<;>rfl
theorem steady_ok {v:gG}{g:Nat}{x:gI}{T:Nat->gY}{F t:Nat}{d:Int}(h:v.nodes[g]? =some x)(b:aFn T F t x)(i:Fag v x.c.Name=some (T t,d))(e:v.frames=(t:Int))(k:x.c.Frames=(F:Int))(j:1<=F/\F<=1000000)(o:t<=1000000000)
  (p:0<=x.c.N)(q: ∀s,-1125899906842624<=(T s).N/\(T s).N<=1125899906842624):
  ∃z,Fcy v (g:Int)=some (stT x.c.N (F:Int) (win T F (t+1)),v.nodes.set g z)/\aFn T F (t+1) z/\z.c=x.c/\z.kids=x.kids/\z.rule=x.rule/\z.kid=x.kid:=by
 have r:g<v.nodes.length:=(gS.1 h).1;obtain⟨y,u,w,A⟩:=b.rg.at_;have B:0<=y/\y<=1:=by
  rw [A];split
  ·omega
  ·exact knF_rng T _
 obtain⟨lo,hi,m1,m2,m3⟩:=mid6 h b e j.2 w B;obtain⟨C,-⟩:=b.rg.next;have a0:at' v.nodes (g:Int)=some x:=yQ h;have D:=tail_ok (v:=v) (ns:=v.nodes.set g (gI.mk x.c x.kids x.rule x.now x.kid (x.ring.set x.at_.toNat (knF T t)) x.at_ x.yes x.no (cnt 1 (win (knF T) F (t+1))) lo hi)) (List.getElem?_set_self r) e k j o (by show(x.ring.set _ _).length=F;rw [List.length_set];exact b.rg.len) ⟨b.rg.a0,b.rg.a1⟩ rfl m2 m3 p q;rw [aYd,a0,zC,i,zC];dsimp only;rw [zC,u,zC,Go.OB.wrap_i64 (n:=y) (by omega) (by omega),m1,zC,D,List.set_set];refine⟨_,rfl,⟨C,rfl,aRk m2,aRk m3⟩,rfl,rfl,rfl,rfl⟩
theorem aUj {T:Nat->gY}{F:Nat}(h:1<=F)(x:gI)(b:x.ring=List.replicate F 0)(d:x.at_=0)(e:x.known=0)(i:x.low=[])(j:x.high=[]):aFn T F 0 x:=by
 refine⟨by rw [b,d];exact aLp h,by rw [e,win_zero];rfl,by rw [i];exact aPk,by rw [j];exact aPk⟩
def sg (n:Int):Int:=if n<0 then-1 else if 0<n then 1 else 0
theorem sg_rng (n:Int): -1<=sg n/\sg n<=1:=by
 unfold sg;split;omega;split<;>omega
theorem sg_e (n:Int):Fao n=some (sg n):=by
 unfold Fao sg;simp only [zH,xG];repeat' split
 all_goals rfl
theorem sg_r (n:Int):Faq n=some (sg n):=by
 unfold Faq sg;simp only [zH,xG];repeat' split
 all_goals rfl
theorem aIl (o c:Int):Fee o c=Fbr o c:=rfl
theorem aUp (b:Bool):Fb7 b=Fbz b:=rfl
theorem abs_sg {a:Int} (h: -1125899906842624<=a/\a<=1125899906842624):IntKind.i64.wrap (a*sg a)=max a (IntKind.i64.wrap (-a)):=by
 rw [Go.OB.wrap_i64 (n:= -a) (by omega) (by omega)];unfold sg;split;rw [Go.OB.wrap_i64 (by omega) (by omega)];omega;split;rw [Go.OB.wrap_i64 (by omega) (by omega)];omega;rw [Go.OB.wrap_i64 (by omega) (by omega)];omega
theorem order_eq {a b c d:Int} (o: -1125899906842624<=a/\a<=1125899906842624) (p: -1125899906842624<=c/\c<=1125899906842624):Fff a b c d=Fbv a b c d:=by
 unfold Fff Fbv;simp only [sg_e,sg_r,zC,zH]
 by_cases e:sg a=sg c
 ·have m1:=abs_sg o;have m2:=abs_sg p;rw [<-e]at m2;rw [qD (λh=>h e),zK,zK,m1,m2];obtain⟨⟨h,l⟩,s⟩:=aFo (IntKind.u64.wrap (max a (IntKind.i64.wrap (-a)))) (IntKind.u64.wrap d);obtain⟨⟨m,n⟩,u⟩:=aFo (IntKind.u64.wrap (max c (IntKind.i64.wrap (-c)))) (IntKind.u64.wrap b);rw [s,zC,zC];dsimp only;rw [u,zC,zC];dsimp only;have w:=sg_rng a;have i:IntKind.i64.wrap (0*sg a)=0:=by rw [Int.zero_mul];exact Go.OB.wrap_i64 (by omega) (by omega)
  have j:IntKind.i64.wrap (1*sg a)=sg a:=by rw [Int.one_mul];exact Go.OB.wrap_i64 (by omega) (by omega)
  have k:IntKind.i64.wrap (-1*sg a)=IntKind.i64.wrap (-sg a):=by congr 1;omega
  rcases Int.lt_trichotomy h m with q|q|q
  ·rw [dT q,qD (by omega: ¬m<h),qD (by omega: ¬h=m)];simp only [zS,zK,zC,k]
  ·subst q;rw [qD (Int.lt_irrefl h),dT (rfl:h=h)];rcases Int.lt_trichotomy l n with r|r|r
   ·rw [dT r,qD (by omega: ¬n<l)];simp only [zS,zK,zC,k]
   ·subst r;rw [qD (Int.lt_irrefl l),dT (rfl:l=l)];simp only [zS,zK,zC,i]
   ·rw [dT r,qD (by omega: ¬l<n),qD (by omega: ¬l=n)];simp only [zS,zK,zC,j]
  ·rw [dT q,qD (by omega: ¬h<m),qD (by omega: ¬h=m)];simp only [zS,zK,zC,j]
 ·rw [dT e,zS,zS]
theorem aWm (v:Int)(l:List Int)(x:Int):cnt v (l++[x])=cnt v l+if x=v then 1 else 0:=aQn v x l
theorem joined_ok {v:gG}{g:Nat}{x:gI}{ts:List Int} (h:v.nodes[g]? =some x) (d:ts.length=x.kids.length) (D:ts.length<=1000000) (o: ∀(j:Nat) (k:Int),x.kids[j]? =some k-> ∃y,at' v.nodes k=some y/\ts[j]? =some y.now):
  Fc0 v (g:Int)=some (if x.c.Kind=9 then dcd (cnt 2 ts=ts.length) (0<cnt 1 ts)else dcd (0<cnt 2 ts) (cnt 1 ts=ts.length)):=by
 have a0:at' v.nodes (g:Int)=some x:=yQ h;have e:Fh4 v (g:Int) (0,0,0)=some (cnt 2 ts,cnt 1 ts):=by
  unfold Fh4;refine xO (λ(i:Nat)=>(cnt 2 (ts.take i),cnt 1 (ts.take i),(i:Int))) x.kids (some (cnt 2 ts,cnt 1 ts)) (by omega) ?_ ?_
  ·intro r i k b hi;obtain⟨y,s,u⟩:=o i k b;have w:ts.take (i+1)=ts.take i++[y.now]:=by rw [List.take_add_one,u];rfl
   have c2:=cnt_le 2 (ts.take i);have G:=cnt_le 1 (ts.take i);have A:(ts.take i).length<=1000000:=by rw [List.length_take];omega
   simp only [zH,a0,zC];rw [yP hi,zS,yQ b,zC,s,zC,fO hi (by omega),w,aWm,aWm];have B:IntKind.i64.wrap (cnt 2 (ts.take i)+1)=cnt 2 (ts.take i)+1:=Go.OB.wrap_i64 (by omega) (by omega);have C:IntKind.i64.wrap (cnt 1 (ts.take i)+1)=cnt 1 (ts.take i)+1:=Go.OB.wrap_i64 (by omega) (by omega);rw [B,C]
   by_cases p:y.now=2
   ·rw [dT p,zS,zC,if_pos p,if_neg (by omega),Int.add_zero]
   ·rw [qD p,zK,if_neg p,Int.add_zero]
    by_cases q:y.now=1
    ·rw [dT q,zS,zC,if_pos q]
    ·rw [qD q,zK,zC,if_neg q,Int.add_zero]
  ·intro r;simp only [zH,a0,zC];rw [yR,zK,<-d,List.take_length]
 unfold Fc0;rw [e,zC];dsimp only;rw [a0,zC];simp only [zH,<-d,aRx,zC];rw [xG];split<;>rfl
structure mQ (E:En)(M:Mk)(t:Nat)(c:Cond)(ks:List Int)(x:gI):Prop where
 hc:x.c=c
 hk:x.kids=ks
 now:x.now=prv (den E (mkN M c)) t
 st:c.Kind=5->aFn (E.tk (M.tr c.Name)) c.Frames.toNat t x
 rg: ∀k,(c.Kind=11\/c.Kind=12\/c.Kind=13)->c.Kids[0]? =some k->aBl (den E (mkN M k)) c.Frames.toNat t x.ring x.at_/\x.yes=cnt 2 (win (den E (mkN M k)) c.Frames.toNat t)/\x.no=cnt 1 (win (den E (mkN M k)) c.Frames.toNat t)
 kd: ∀k,c.Kind=15->c.Kids[0]? =some k->x.kid=prv (den E (mkN M k)) t
def aBw (x:gI)(t:Int):gI:=gI.mk x.c x.kids x.rule t x.kid x.ring x.at_ x.yes x.no x.known x.low x.high
theorem opp6 {t:Int}(h:0<=t/\t<=2):Fg2 t=some (opp t):=by
 rcases tri h with rfl|rfl|rfl<;>rfl
section
variable {E:En}{M:Mk}{t g:Nat}{c:Cond}{ks:List Int}{x:gI}{v:gG}
theorem step_not (b:v.nodes[g]? =some x)(h:mQ E M t c ks x)(hc:c.Kind=8){k:Cond}(hk:c.Kids=[k]){i:Int}(hi:ks=[i]){y:gI}(e:at' v.nodes i=some y)(j:y.now=den E (mkN M k) t)(o:0<=y.now/\y.now<=2):
  Faa v (g:Int)=some (v.nodes.set g (aBw x (den E (mkN M c) t)))/\mQ E M (t+1) c ks (aBw x (den E (mkN M c) t)):=by
 have p:g<v.nodes.length:=(gS.1 b).1;have a0:at' v.nodes (g:Int)=some x:=yQ b;have r:den E (mkN M c) t=opp y.now:=by
  rw [jP,hk,hc];simp only [mkK,Int.reduceEq,if_false,if_true,List.map_cons,List.map_nil,List.getD_cons_zero];rw [den,j]
 have d:x.kids=[i]:=h.hk.trans hi;have s:x.c.Kind=8:=by rw [h.hc];exact hc
 refine⟨?_,⟨h.hc,h.hk,rfl,λq=>by omega,λk q=>by omega,λk q=>by omega⟩⟩;unfold Faa;have u:at' [i] 0=some i:=rfl;simp only [zH,a0,zC,d];rw [qD (by simp),zK,u,zC,e,zC,dT s,zS,opp6 o,zC,set_self p,zC,<-r];refine congrArg some (congrArg (v.nodes.set g) ?_);unfold aBw;rw [jO,<-d]
end
structure Kids (E:En)(M:Mk)(t:Nat)(c:Cond)(ks:List Int)(v:gG):Prop where
 len:ks.length=c.Kids.length
 at_: ∀(j:Nat) (k:Int),ks[j]? =some k-> ∃y d,at' v.nodes k=some y/\c.Kids[j]? =some d/\y.now=den E (mkN M d) t
 rg: ∀d∈c.Kids,∀s,0<=den E (mkN M d) s/\den E (mkN M d) s<=2
section
variable {E:En}{M:Mk}{t g:Nat}{c:Cond}{ks:List Int}{x:gI}{v:gG}
theorem Kids.one (h:Kids E M t c ks v){k:Cond}(b:c.Kids=[k]): ∃i y,ks=[i]/\at' v.nodes i=some y/\y.now=den E (mkN M k) t/\ ∀s,0<=den E (mkN M k) s/\den E (mkN M k) s<=2:=by
 have e:=h.len;rw [b]at e
 match ks,e,h with
 | [i],_,h=>
  obtain⟨y,d,o,j,p⟩:=h.at_ 0 i rfl;rw [b]at j;obtain rfl:k=d:=by simpa using j
  exact⟨i,y,rfl,o,p,h.rg k (by rw [b];simp)⟩
theorem Kids.two (h:Kids E M t c ks v){k l:Cond}(b:c.Kids=[k,l]): ∃i j y z,ks=[i,j]/\at' v.nodes i=some y/\at' v.nodes j=some z/\y.now=den E (mkN M k) t/\z.now=den E (mkN M l) t:=by
 have o:=h.len;rw [b]at o
 match ks,o,h with
 | [i,j],_,h=>
  obtain⟨y,d,q,p,r⟩:=h.at_ 0 i rfl;obtain⟨z,e,g1,g2,g3⟩:=h.at_ 1 j rfl;rw [b]at p g2;obtain rfl:k=d:=by simpa using p
  obtain rfl:l=e:=by simpa using g2
  exact⟨i,j,y,z,rfl,q,g1,r,g3⟩
theorem aWt (e:v.nodes[g]? =some x) (h:mQ E M t c ks x) (hc:c.Kind=9\/c.Kind=10) (hk:Kids E M t c ks v) (I:2<=c.Kids.length/\c.Kids.length<=200):
  Faa v (g:Int)=some (v.nodes.set g (aBw x (den E (mkN M c) t)))/\mQ E M (t+1) c ks (aBw x (den E (mkN M c) t)):=by
 have u:g<v.nodes.length:=(gS.1 e).1;have a0:at' v.nodes (g:Int)=some x:=yQ e;have w:=hk.len;have tr: ∀z∈c.Kids.map (λd=>den E (mkN M d) t),0<=z/\z<=2:=λz A=>by
  obtain⟨d,hd,rfl⟩:=List.mem_map.1 A;exact hk.rg d hd t
 have B:den E (mkN M c) t=if c.Kind=9 then dcd (cnt 2 (c.Kids.map λd=>den E (mkN M d) t)=(c.Kids.map λd=>den E (mkN M d) t).length) (0<cnt 1 (c.Kids.map λd=>den E (mkN M d) t))else dcd (0<cnt 2 (c.Kids.map λd=>den E (mkN M d) t)) (cnt 1 (c.Kids.map λd=>den E (mkN M d) t)=(c.Kids.map λd=>den E (mkN M d) t).length):=by
  rw [jP];rcases hc with hc|hc
  ·rw [hc];simp only [mkK,Int.reduceEq,if_false,if_true,or_false,decide_false];rw [den];show List.foldl (uX 1 2) 2 (dens E (c.Kids.map (mkN M)) t)=_;rw [vG,List.map_map];exact and_fold tr
  ·rw [hc];simp only [mkK,Int.reduceEq,if_false,if_true,or_true,decide_true];rw [den];show List.foldl (uX 2 1) 1 (dens E (c.Kids.map (mkN M)) t)=_;rw [vG,List.map_map];exact or_fold tr
 have jk:=joined_ok (v:=v) (g:=g) (x:=x) (ts:=c.Kids.map λd=>den E (mkN M d) t) e (by rw [List.length_map,h.hk,w]) (by rw [List.length_map];omega) (λj k s=>by
  rw [h.hk]at s;obtain⟨y,d,o,C,D⟩:=hk.at_ j k s;exact⟨y,o,by rw [List.getElem?_map,C,D];rfl⟩)
 rw [h.hc,<-B]at jk;refine⟨?_,⟨h.hc,h.hk,rfl,λq=>by omega,λk q=>by omega,λk q=>by omega⟩⟩;obtain⟨i0,b⟩: ∃i,ks[0]? =some i:=⟨_,gE (by omega)⟩;obtain⟨y,d,o,-,-⟩:=hk.at_ 0 i0 b;have G:at' ks (0:Int)=some i0:=yQ (i:=0) b;have p:Fc0 (gG.mk (Rules.mk v.r.Phases v.r.Moves v.r.Rules) v.names v.dens v.told v.frames v.phase v.nodes v.first v.moves v.rules) (g:Int)=some (den E (mkN M c) t):=jk;unfold Faa;simp only [zH,a0,zC,h.hk];rw [qD (by omega),zK,G,zC,o,zC,h.hc,qD (by omega: ¬c.Kind=8),zK,p];have H:gK (decide (c.Kind=9)) (some (decide (c.Kind=9))) (some (decide (c.Kind=10)))=some true:=by
  rcases hc with hc|hc
  ·rw [dT hc];rfl
  ·rw [qD (by omega: ¬c.Kind=9),dT hc];rfl
 rw [H,zC,zS,zC,set_self u,zC];refine congrArg some (congrArg (v.nodes.set g) ?_);unfold aBw;rw [jO,h.hk,h.hc]
theorem aYm (d:v.nodes[g]? =some x) (h:mQ E M t c ks x) (hc:c.Kind=14) (hk:Kids E M t c ks v) {k l:Cond} (e:c.Kids=[k,l]):
  Faa v (g:Int)=some (v.nodes.set g (aBw x (den E (mkN M c) t)))/\mQ E M (t+1) c ks (aBw x (den E (mkN M c) t)):=by
 have o:g<v.nodes.length:=(gS.1 d).1;have a0:at' v.nodes (g:Int)=some x:=yQ d;obtain⟨i,j,y,z,rfl,s,u,w,A⟩:=hk.two e;have B:mkN M c= .since (mkN M k) (mkN M l) 0 false:=by
  rw [jP,hc,e];simp [mkK]
 have b:den E (mkN M c) t=dcd (z.now=2\/y.now=2/\x.now=2) (z.now=1/\(y.now=1\/x.now=1)):=by
  rw [h.now,B,den,w,A];rw [<-aOl,since_dcd]
 refine⟨?_,⟨h.hc,h.hk,rfl,λq=>by omega,λk q=>by omega,λk q=>by omega⟩⟩;have C:at' [i,j] 0=some i:=rfl;have a2:at' [i,j] 1=some j:=rfl;unfold Faa;simp only [zH,a0,zC,h.hk];rw [qD (by simp),zK,C,zC,s,zC,h.hc,qD (by omega: ¬c.Kind=8),zK,qD (by omega: ¬c.Kind=9),qD (by omega: ¬c.Kind=10),zK,zC,zK,qD (by omega: ¬c.Kind=11),zK,qD (by omega: ¬c.Kind=12),zK,qD (by omega: ¬c.Kind=13),zK,dT hc,zS,a2,zC,u,zC];have D:gK (decide (z.now=2)) (some true) (gK (decide (y.now=2)) (some (decide (x.now=2))) (some false))=some (decide (z.now=2\/y.now=2/\x.now=2)):=by
  by_cases p:z.now=2<;>by_cases q:y.now=2<;>by_cases r:x.now=2<;>simp [p,q,r,gK]
 rw [D,zC];have fin: ∀q:Prop,[Decidable q]->(q↔(z.now=1/\(y.now=1\/x.now=1)))->Fab (decide (z.now=2\/y.now=2/\x.now=2)) (decide q)=some (den E (mkN M c) t):=λq _ G=>by
  rw [b,aRx];unfold dcd;simp only [G]
 have ft:Fab (decide (z.now=2\/y.now=2/\x.now=2)) true=Fab (decide (z.now=2\/y.now=2/\x.now=2)) (decide True):=by simp
 have H:Fab (decide (z.now=2\/y.now=2/\x.now=2)) false=Fab (decide (z.now=2\/y.now=2/\x.now=2)) (decide False):=by simp
 have last:set' v.nodes (g:Int) (gI.mk (Cond.mk c.Kind c.Name c.Other c.Op c.N c.Frames c.Kids) [i,j] x.rule (den E (mkN M c) t) x.kid x.ring x.at_ x.yes x.no x.known x.low x.high)=some (v.nodes.set g (aBw x (den E (mkN M c) t))):=by
  rw [set_self o];refine congrArg some (congrArg (v.nodes.set g) ?_);unfold aBw;rw [jO,h.hk,h.hc]
 by_cases p:z.now=1
 ·rw [dT p,zS]
  by_cases q:y.now=1
  ·rw [dT q,zS,ft,fin True (by simp [p,q]),zC,last,zC]
  ·rw [qD q,zK,fin (x.now=1) (by simp [p,q]),zC,last,zC]
 ·rw [qD p,zK,H,fin False (by simp [p]),zC,last,zC]
end
section
variable {E:En}{M:Mk}{t g:Nat}{c:Cond}{ks:List Int}{x:gI}{v:gG}
def aEn (x:gI)(f:Nat->Int)(n t:Nat):gI:=gI.mk x.c x.kids x.rule x.now x.kid (x.ring.set x.at_.toNat (f t)) ((x.at_+1)%(n:Int)) (cnt 2 (win f n (t+1))) (cnt 1 (win f n (t+1))) x.known x.low x.high
theorem aLg (j:v.nodes[g]? =some x) (h:mQ E M t c ks x) (hc:c.Kind=11\/c.Kind=12\/c.Kind=13) (hk:Kids E M t c ks v) {k:Cond} (b:c.Kids=[k]) (p:1<=c.Frames/\c.Frames<=4096) (Q: -1125899906842624<=c.N/\c.N<=1125899906842624):
  ∃z,Faa v (g:Int)=some (v.nodes.set g z)/\mQ E M (t+1) c ks z/\z.rule=x.rule:=by
 have r:g<v.nodes.length:=(gS.1 j).1;have a0:at' v.nodes (g:Int)=some x:=yQ j;obtain⟨i,y,rfl,A,s,B⟩:=hk.one b;obtain⟨u,C,D⟩:=h.rg k hc (by rw [b];rfl);have w:=put_ok j u C D (by omega) B;rw [<-s]at w;have o:Fa5 v.nodes (g:Int) y.now=some (v.nodes.set g (aEn x (den E (mkN M k)) c.Frames.toNat t)):=by rw [w,s];rfl
 have G:=u.next.1;have H:at' [i] 0=some i:=rfl;have I:(aEn x (den E (mkN M k)) c.Frames.toNat t).c=c:=h.hc;have J:(aEn x (den E (mkN M k)) c.Frames.toNat t).yes=cnt 2 (win (den E (mkN M k)) c.Frames.toNat (t+1)):=rfl;have K:(aEn x (den E (mkN M k)) c.Frames.toNat t).no=cnt 1 (win (den E (mkN M k)) c.Frames.toNat (t+1)):=rfl;refine⟨aBw (aEn x (den E (mkN M k)) c.Frames.toNat t) (den E (mkN M c) t),?_,⟨h.hc,h.hk,rfl,λq=>by omega,λO _ e=>?_,λk q=>by omega⟩,rfl⟩
 ·unfold Faa;simp only [zH,a0,zC,h.hk];rw [qD (by simp),zK,H,zC,A,zC,h.hc,qD (by omega: ¬c.Kind=8),zK,qD (by omega: ¬c.Kind=9),qD (by omega: ¬c.Kind=10),zK,zC,zK,o];simp only [zC,aDi r,I,J,K,aRx,aDb r,jO];have fin: ∀d,d=den E (mkN M c) t->some (v.nodes.set g (gI.mk c (aEn x (den E (mkN M k)) c.Frames.toNat t).kids (aEn x (den E (mkN M k)) c.Frames.toNat t).rule d (aEn x (den E (mkN M k)) c.Frames.toNat t).kid (aEn x (den E (mkN M k)) c.Frames.toNat t).ring (aEn x (den E (mkN M k)) c.Frames.toNat t).at_ (cnt 2 (win (den E (mkN M k)) c.Frames.toNat (t+1))) (cnt 1 (win (den E (mkN M k)) c.Frames.toNat (t+1))) (aEn x (den E (mkN M k)) c.Frames.toNat t).known (aEn x (den E (mkN M k)) c.Frames.toNat t).low (aEn x (den E (mkN M k)) c.Frames.toNat t).high))=some (v.nodes.set g (aBw (aEn x (den E (mkN M k)) c.Frames.toNat t) (den E (mkN M c) t))):=λd hd=>by
   rw [hd];refine congrArg some (congrArg (v.nodes.set g) ?_);unfold aBw aEn;rw [h.hc]
  rcases hc with hc|hc|hc
  ·rw [dT hc,zS];refine fin _ ?_;rw [jP M c,hc,b];simp only [mkK,Int.reduceEq,if_false,if_true,or_self,List.map_cons,List.map_nil,List.getD_cons_zero];rw [den];exact(for_cnt p.1).symm
  ·rw [qD (by omega: ¬c.Kind=11),zK,dT hc,zS];refine fin _ ?_;rw [jP M c,hc,b];simp only [mkK,Int.reduceEq,if_false,if_true,or_self,List.map_cons,List.map_nil,List.getD_cons_zero];rw [den];exact(aYg p.1).symm
  ·rw [qD (by omega: ¬c.Kind=11),zK,qD (by omega: ¬c.Kind=12),zK,dT hc,zS,Go.OB.wrap_i64 (n:=c.Frames-c.N) (by omega) (by omega)];refine fin _ ?_;rw [jP M c,hc,b];simp only [mkK,Int.reduceEq,if_false,if_true,or_self,List.map_cons,List.map_nil,List.getD_cons_zero];rw [den];exact(count_dcd _ _ _).symm
 ·rw [b]at e;obtain rfl:k=O:=by simpa using e
  exact⟨G,rfl,rfl⟩
theorem step_rise (j:v.nodes[g]? =some x) (h:mQ E M t c ks x) (hc:c.Kind=15) (hk:Kids E M t c ks v) {k:Cond} (d:c.Kids=[k]):
  ∃z,Faa v (g:Int)=some (v.nodes.set g z)/\mQ E M (t+1) c ks z/\z.rule=x.rule:=by
 have o:g<v.nodes.length:=(gS.1 j).1;have a0:at' v.nodes (g:Int)=some x:=yQ j;obtain⟨i,y,rfl,u,r,_⟩:=hk.one d;have kd:=h.kd k hc (by rw [d];rfl);have w:at' [i] 0=some i:=rfl;have e:den E (mkN M c) t=dcd (y.now=2/\x.kid=1) (y.now=1\/x.kid=2):=by
  rw [jP M c,hc,d];simp only [mkK,Int.reduceEq,if_false,or_self,List.map_cons,List.map_nil,List.getD_cons_zero];rw [den,kd,r];rfl
 refine⟨gI.mk x.c x.kids x.rule (den E (mkN M c) t) y.now x.ring x.at_ x.yes x.no x.known x.low x.high,?_,⟨h.hc,h.hk,rfl,λq=>by omega,λs q=>by omega,λs _ b=>?_⟩,rfl⟩
 ·unfold Faa;simp only [zH,a0,zC,h.hk];rw [qD (by simp),zK,w,zC,u,zC,h.hc,qD (by omega: ¬c.Kind=8),zK,qD (by omega: ¬c.Kind=9),qD (by omega: ¬c.Kind=10),zK,zC,zK,qD (by omega: ¬c.Kind=11),zK,qD (by omega: ¬c.Kind=12),zK,qD (by omega: ¬c.Kind=13),zK,qD (by omega: ¬c.Kind=14),zK];have A:gK (decide (y.now=2)) (some (decide (x.kid=1))) (some false)=some (decide (y.now=2/\x.kid=1)):=by
   by_cases p:y.now=2<;>by_cases q:x.kid=1<;>simp [p,q,gK]
  have fin: ∀q:Prop,[Decidable q]->(q↔(y.now=1\/x.kid=2))->Fab (decide (y.now=2/\x.kid=1)) (decide q)=some (den E (mkN M c) t):=λq _ B=>by
   rw [e,aRx];unfold dcd;simp only [B]
  have ft:Fab (decide (y.now=2/\x.kid=1)) true=Fab (decide (y.now=2/\x.kid=1)) (decide True):=by simp
  rw [A,zC]
  by_cases p:y.now=1
  ·rw [dT p,zS,ft,fin True (by simp [p]),zC,set_self o,zC,jO]
  ·rw [qD p,zK,fin (x.kid=2) (by simp [p]),zC,set_self o,zC,jO]
 ·rw [d]at b;obtain rfl:k=s:=by simpa using b
  exact r
end
section
variable {E:En}{M:Mk}{t g:Nat}{c:Cond}{ks:List Int}{x z:gI}{v:gG}
theorem aPs (e:v.nodes[g]? =some x)(i:x.kids=[]){d:Int}(j:Fad v (g:Int)=some (d,v.nodes.set g z)):
  Faa v (g:Int)=some (v.nodes.set g (aBw z d)):=by
 have h:g<v.nodes.length:=(gS.1 e).1;have a0:at' v.nodes (g:Int)=some x:=yQ e;have b:Fad (gG.mk (Rules.mk v.r.Phases v.r.Moves v.r.Rules) v.names v.dens v.told v.frames v.phase v.nodes v.first v.moves v.rules) (g:Int)=some (d,v.nodes.set g z):=j;unfold Faa;simp only [zH,a0,zC,i];rw [dT (by simp:(([]:List Int).length:Int)=0),zS,b,zC];dsimp only;rw [aDi h,zC,aDb h,zC,jO];rfl
theorem leaf_same (b:v.nodes[g]? =some x){d:Int}(e:Fad v (g:Int)=some (d,v.nodes)):Fad v (g:Int)=some (d,v.nodes.set g x):=by rw [e,aMn b]
theorem leaf_true (b:v.nodes[g]? =some x)(h:mQ E M t c ks x)(hc:c.Kind=1):Fad v (g:Int)=some (den E (mkN M c) t,v.nodes):=by
 have a0:at' v.nodes (g:Int)=some x:=yQ b;unfold Fad;simp only [zH,a0,zC,h.hc];rw [dT hc,zS,jP,hc];simp only [mkK,if_true];rw [den]
theorem aYl (b:v.nodes[g]? =some x)(h:mQ E M t c ks x)(hc:c.Kind=2):Fad v (g:Int)=some (den E (mkN M c) t,v.nodes):=by
 have a0:at' v.nodes (g:Int)=some x:=yQ b;unfold Fad;simp only [zH,a0,zC,h.hc];rw [qD (by omega: ¬c.Kind=1),zK,dT hc,zS,jP,hc];simp only [mkK,if_true,Int.reduceEq,if_false];rw [den]
theorem leaf_num (j:v.nodes[g]? =some x) (h:mQ E M t c ks x) (hc:c.Kind=3) {T:gY}{d:Int} (k:Fag v c.Name=some (T,d)) (o:at' (E.told t) (M.tr c.Name)=some T):Fad v (g:Int)=some (den E (mkN M c) t,v.nodes):=by
 have a0:at' v.nodes (g:Int)=some x:=yQ j;have e:Fag (gG.mk (Rules.mk v.r.Phases v.r.Moves v.r.Rules) v.names v.dens v.told v.frames v.phase v.nodes v.first v.moves v.rules) c.Name=some (T,d):=k;have i:at' (E.m t).told (M.tr c.Name)=some T:=o;have p:den E (mkN M c) t=aQm (E.m t) (M.tr c.Name) c.Op c.N:=by
  rw [jP,hc];simp only [mkK,if_true,Int.reduceEq,if_false];rw [den]
 rw [p];unfold aQm Fad Fbl;simp only [zH,a0,zC,h.hc];rw [qD (by omega: ¬c.Kind=1),zK,qD (by omega: ¬c.Kind=2),zK,dT hc,zS,e,zC,i,zC];dsimp only
 cases T.Known
 ·rfl
 ·simp only [Bool.not_true,zK,sg_e,sg_r,zC,aIl,aUp];obtain⟨b,q⟩:=wE c.Op (sg (IntKind.i64.wrap (T.N-c.N)));obtain⟨_,s,-⟩:=aAs b;rw [q,zC,zC,s,zC,zC];rfl
theorem leaf_pair (q:v.nodes[g]? =some x) (h:mQ E M t c ks x) (hc:c.Kind=4) {T U:gY}{d e:Int} (s:Fag v c.Name=some (T,d)) (i:Fag v c.Other=some (U,e)) (w:at' (E.told t) (M.tr c.Name)=some T) (A:at' (E.told t) (M.tr c.Other)=some U) (hd:d=M.dn (M.tr c.Name)) (B:e=M.dn (M.tr c.Other))
  (C: -1125899906842624<=T.N/\T.N<=1125899906842624) (D: -1125899906842624<=U.N/\U.N<=1125899906842624):Fad v (g:Int)=some (den E (mkN M c) t,v.nodes):=by
 have a0:at' v.nodes (g:Int)=some x:=yQ q;have j:Fag (gG.mk (Rules.mk v.r.Phases v.r.Moves v.r.Rules) v.names v.dens v.told v.frames v.phase v.nodes v.first v.moves v.rules) c.Name=some (T,d):=s;have k:Fag (gG.mk (Rules.mk v.r.Phases v.r.Moves v.r.Rules) v.names v.dens v.told v.frames v.phase v.nodes v.first v.moves v.rules) c.Other=some (U,e):=i;have o:at' (E.m t).told (M.tr c.Name)=some T:=w;have p:at' (E.m t).told (M.tr c.Other)=some U:=A;have dn:den E (mkN M c) t=pairT (E.m t) (M.tr c.Name) (M.tr c.Other) (M.dn (M.tr c.Name)) (M.dn (M.tr c.Other)) c.Op:=by
  rw [jP,hc];simp only [mkK,if_true,Int.reduceEq,if_false];rw [den]
 rw [dn,<-hd,<-B];unfold pairT Fad Fbb;simp only [zH,a0,zC,h.hc];rw [qD (by omega: ¬c.Kind=1),zK,qD (by omega: ¬c.Kind=2),zK,qD (by omega: ¬c.Kind=3),zK,dT hc,zS,j,zC];dsimp only;rw [k,zC,o,zC,p,zC];dsimp only
 cases T.Known
 ·rfl
 ·cases U.Known
  ·rfl
  ·simp only [Bool.not_true,zK,zC,order_eq C D,aIl,aUp];obtain⟨r,G⟩:=cf_ex T.N d U.N e;rw [G,zC,zC];obtain⟨b,i⟩:=wE c.Op r;obtain⟨_,H,-⟩:=aAs b;rw [i,zC,zC,H,zC,zC];rfl
theorem leaf_rule (b:v.nodes[g]? =some x)(h:mQ E M t c ks x)(hc:c.Kind=7){y:gI}(d:at' v.nodes x.rule=some y)(e:at' (E.rl t) (M.rl c.Name)=some y.now):Fad v (g:Int)=some (den E (mkN M c) t,v.nodes):=by
 have a0:at' v.nodes (g:Int)=some x:=yQ b;have i:den E (mkN M c) t=y.now:=by
  rw [jP,hc];simp only [mkK,if_true,Int.reduceEq,if_false];rw [den];show(at' (E.rl t) (M.rl c.Name)).getD 0=_;rw [e];rfl
 rw [i];unfold Fad;simp only [zH,a0,zC,h.hc];rw [qD (by omega: ¬c.Kind=1),zK,qD (by omega: ¬c.Kind=2),zK,qD (by omega: ¬c.Kind=3),zK,qD (by omega: ¬c.Kind=4),zK,qD (by omega: ¬c.Kind=5),zK,qD (by omega: ¬c.Kind=6),zK,d,zC]
theorem aXf (b:v.nodes[g]? =some x)(h:mQ E M t c ks x)(hc:c.Kind=5)(hk:x.kids=[]){d:Int}(o:Fag v c.Name=some (E.tk (M.tr c.Name) t,d))(e:v.frames=(t:Int))(G:1<=c.Frames/\c.Frames<=4096)(p:t<=1000000000)(u:0<=c.N)(w: ∀s,-1125899906842624<=(E.tk (M.tr c.Name) s).N/\(E.tk (M.tr c.Name) s).N<=1125899906842624):
  ∃z,Faa v (g:Int)=some (v.nodes.set g z)/\mQ E M (t+1) c ks z/\z.rule=x.rule:=by
 have a0:at' v.nodes (g:Int)=some x:=yQ b;have j:((c.Frames.toNat:Nat):Int)=c.Frames:=by omega
 obtain⟨z,s1,s2,A,B,C,_⟩:=steady_ok b (h.st hc) (by rw [h.hc];exact o) e (by rw [h.hc];exact j.symm) (by omega) p (by rw [h.hc];exact u) w;have D:den E (mkN M c) t=stT x.c.N ((c.Frames.toNat:Nat):Int) (win (E.tk (M.tr c.Name)) c.Frames.toNat (t+1)):=by
  rw [jP,hc,h.hc,j];simp only [mkK,if_true,Int.reduceEq,if_false];rw [den]
 rw [<-D]at s1;have i:Fcy (gG.mk (Rules.mk v.r.Phases v.r.Moves v.r.Rules) v.names v.dens v.told v.frames v.phase v.nodes v.first v.moves v.rules) (g:Int)=some (den E (mkN M c) t,v.nodes.set g z):=s1;refine⟨aBw z (den E (mkN M c) t),aPs b hk ?_,⟨A.trans h.hc,B.trans h.hk,rfl,λ_=>⟨s2.rg,s2.kn,s2.lo,s2.hi⟩,λk q=>by omega,λk q=>by omega⟩,C⟩;unfold Fad;simp only [zH,a0,zC,h.hc];rw [qD (by omega: ¬c.Kind=1),zK,qD (by omega: ¬c.Kind=2),zK,qD (by omega: ¬c.Kind=3),zK,qD (by omega: ¬c.Kind=4),zK,dT hc,zS,i,zC]
end
section
variable {E:En}{M:Mk}{t g:Nat}{c:Cond}{ks:List Int}{x z:gI}{v:gG}
theorem aXh (p:v.nodes[g]? =some x)(h:mQ E M t c ks x)(hc:c.Kind=6)(k:v.phase=E.ps t)(q:v.phase.length<=2000000)(s:Fac v.r.Phases c.Name=some (M.ph c.Name))(u:0<=M.ph c.Name/\M.ph c.Name<v.phase.length):Fad v (g:Int)=some (den E (mkN M c) t,v.nodes):=by
 have a0:at' v.nodes (g:Int)=some x:=yQ p;have w:den E (mkN M c) t=mD (E.m t) (M.ph c.Name):=by
  rw [jP,hc];simp only [mkK,if_true,Int.reduceEq,if_false];rw [den]
 obtain⟨r,d⟩:=aMx v.phase (E.told t) (E.rl t) q;obtain⟨b,o⟩:=wL u;have A:Fi6 v (0,0)=some r:=d;have B:Fbn (E.m t) (((E.m t).possible.length:Nat):Int) (0,0)=some r:=by
  show Fbn (gQ.mk (E.told t) (E.ps t) (E.rl t)) ((E.ps t).length:Int) (0,0)=some r;rw [<-k];exact d
 have i:at' (E.m t).possible (M.ph c.Name)=some b:=by
  show at' (E.ps t) _=_;rw [<-k];exact o
 have j:Fb6 v c.Name=some (mD (E.m t) (M.ph c.Name)):=by
  unfold Fb6 mD Fbh;simp only [zH];rw [A,zC,s,zC,o,zC,B,zC];rw [i,zC]
  cases b
  ·rfl
  ·cases decide (r=1)<;>rfl
 have e:Fb6 (gG.mk (Rules.mk v.r.Phases v.r.Moves v.r.Rules) v.names v.dens v.told v.frames v.phase v.nodes v.first v.moves v.rules) c.Name=some (mD (E.m t) (M.ph c.Name)):=j;rw [w];unfold Fad;simp only [zH,a0,zC,h.hc];rw [qD (by omega: ¬c.Kind=1),zK,qD (by omega: ¬c.Kind=2),zK,qD (by omega: ¬c.Kind=3),zK,qD (by omega: ¬c.Kind=4),zK,qD (by omega: ¬c.Kind=5),zK,dT hc,zS,e,zC]
structure Looks (E:En)(M:Mk)(t:Nat)(c:Cond)(x:gI)(v:gG):Prop where
 fr:v.frames=(t:Int)
 tt:t<=1000000000
 nm:c.Kind=3\/c.Kind=4\/c.Kind=5->Fag v c.Name=some (E.tk (M.tr c.Name) t,M.dn (M.tr c.Name))/\at' (E.told t) (M.tr c.Name)=some (E.tk (M.tr c.Name) t)
 ot:c.Kind=4->Fag v c.Other=some (E.tk (M.tr c.Other) t,M.dn (M.tr c.Other))/\at' (E.told t) (M.tr c.Other)=some (E.tk (M.tr c.Other) t)
 bd: ∀tr s,-1125899906842624<=(E.tk tr s).N/\(E.tk tr s).N<=1125899906842624
 ph:c.Kind=6->v.phase=E.ps t/\v.phase.length<=2000000/\Fac v.r.Phases c.Name=some (M.ph c.Name)/\0<=M.ph c.Name/\M.ph c.Name<v.phase.length
 rl:c.Kind=7-> ∃y,at' v.nodes x.rule=some y/\at' (E.rl t) (M.rl c.Name)=some y.now
structure aPe (c:Cond):Prop where
 k1:1<=c.Kind/\c.Kind<=15
 leaf:c.Kind<=7->c.Kids=[]
 one:c.Kind=8\/c.Kind=11\/c.Kind=12\/c.Kind=13\/c.Kind=15-> ∃k,c.Kids=[k]
 two:c.Kind=14-> ∃k l,c.Kids=[k,l]
 many:c.Kind=9\/c.Kind=10->2<=c.Kids.length/\c.Kids.length<=200
 fr:c.Kind=5\/c.Kind=11\/c.Kind=12\/c.Kind=13->1<=c.Frames/\c.Frames<=4096
 n: -1125899906842624<=c.N/\c.N<=1125899906842624
 st:c.Kind=5->0<=c.N
theorem rX (h:mQ E M t c ks x)(hc:c.Kind<=7)(b:c.Kind≠5):mQ E M (t+1) c ks (aBw x (den E (mkN M c) t)):=
 ⟨h.hc,h.hk,rfl,λq=>absurd q b,λk q=>by omega,λk q=>by omega⟩
theorem step_ok (j:v.nodes[g]? =some x) (h:mQ E M t c ks x) (hi:aPe c) (hk:Kids E M t c ks v) (o:Looks E M t c x v):
  ∃z,Faa v (g:Int)=some (v.nodes.set g z)/\mQ E M (t+1) c ks z/\z.rule=x.rule:=by
 have r: ∀{d:Int},c.Kind<=7->Fad v (g:Int)=some (d,v.nodes)->Faa v (g:Int)=some (v.nodes.set g (aBw x d)):=λ {d} B e=>by
  have s:x.kids=[]:=by
   rw [h.hk];have:=hk.len;rw [hi.leaf B]at this;exact List.eq_nil_of_length_eq_zero this
  exact aPs j s (leaf_same j e)
 rcases kinds hi.k1 with e|e|e|e|e|e|e|e|e|e|e|e|e|e|e
 ·exact⟨_,r (by omega) (leaf_true j h e),rX h (by omega) (by omega),rfl⟩
 ·exact⟨_,r (by omega) (aYl j h e),rX h (by omega) (by omega),rfl⟩
 ·obtain⟨p,q⟩:=o.nm (.inl e);exact⟨_,r (by omega) (leaf_num j h e p q),rX h (by omega) (by omega),rfl⟩
 ·obtain⟨p,q⟩:=o.nm (.inr (.inl e));obtain⟨u,w⟩:=o.ot e;exact⟨_,r (by omega) (leaf_pair j h e p u q w rfl rfl (o.bd _ _) (o.bd _ _)),rX h (by omega) (by omega),rfl⟩
 ·obtain⟨p,-⟩:=o.nm (.inr (.inr e));have s:x.kids=[]:=by
   rw [h.hk];have:=hk.len;rw [hi.leaf (by omega)]at this;exact List.eq_nil_of_length_eq_zero this
  exact aXf j h e s p o.fr (hi.fr (.inl e)) o.tt (hi.st e) (o.bd _)
 ·obtain⟨p,q,u,w⟩:=o.ph e;exact⟨_,r (by omega) (aXh j h e p q u w),rX h (by omega) (by omega),rfl⟩
 ·obtain⟨y,p,q⟩:=o.rl e;exact⟨_,r (by omega) (leaf_rule j h e p q),rX h (by omega) (by omega),rfl⟩
 ·obtain⟨k,b⟩:=hi.one (.inl e);obtain⟨_,y,C,D,A,G⟩:=hk.one b;obtain⟨s1,s2⟩:=step_not j h e b C D A (by rw [A];exact G t);exact⟨_,s1,s2,rfl⟩
 ·obtain⟨s1,s2⟩:=aWt j h (.inl e) hk (hi.many (.inl e));exact⟨_,s1,s2,rfl⟩
 ·obtain⟨s1,s2⟩:=aWt j h (.inr e) hk (hi.many (.inr e));exact⟨_,s1,s2,rfl⟩
 ·obtain⟨k,b⟩:=hi.one (by omega);exact aLg j h (by omega) hk b (hi.fr (by omega)) hi.n
 ·obtain⟨k,b⟩:=hi.one (by omega);exact aLg j h (by omega) hk b (hi.fr (by omega)) hi.n
 ·obtain⟨k,b⟩:=hi.one (by omega);exact aLg j h (by omega) hk b (hi.fr (by omega)) hi.n
 ·obtain⟨k,l,b⟩:=hi.two e;obtain⟨s1,s2⟩:=aYm j h e hk b;exact⟨_,s1,s2,rfl⟩
 ·obtain⟨k,b⟩:=hi.one (by omega);exact step_rise j h e hk b
end
structure Itm where
 c:Cond
 ks:List Int
 M:Mk
 rule:Int
def aUr (L:List Itm):Prop:= ∀(g:Nat) (it:Itm),L[g]? =some it->it.ks.length=it.c.Kids.length/\aPe it.c/\ ∀(j:Nat) (k:Int),it.ks[j]? =some k-> ∃(b:Nat) (y:Itm),k=(b:Int)/\b<g/\L[b]? =some y/\it.c.Kids[j]? =some y.c/\y.M=it.M
structure tX (E:En)(L:List Itm)(ns:List gI)(n t:Nat):Prop where
 len:ns.length=L.length
 nd: ∀(g:Nat) (it:Itm),L[g]? =some it-> ∃x,ns[g]? =some x/\mQ E it.M (if g<n then t+1 else t) it.c it.ks x/\x.rule=it.rule
section
variable {E:En}{L:List Itm}{n t:Nat}{v:gG}
theorem aLj (J:aUr L) (h:tX E L v.nodes n t) (K:n<L.length) (N: ∀it∈L,∀s,0<=den E (mkN it.M it.c) s/\den E (mkN it.M it.c) s<=2)
  (i: ∀it x,L[n]? =some it->v.nodes[n]? =some x->x.rule=it.rule->Looks E it.M t it.c x v):
  ∃ns,Faa v (n:Int)=some ns/\tX E L ns (n+1) t:=by
 obtain⟨it,b⟩: ∃it,L[n]? =some it:=⟨_,gE K⟩;obtain⟨x,r,D,G⟩:=h.nd n it b;rw [if_neg (Nat.lt_irrefl n)]at D;obtain⟨l1,l2,H⟩:=J n it b;have O:Kids E it.M t it.c it.ks v:=by
  refine⟨l1,λj k o=>?_,λ_ hd s=>?_⟩
  ·obtain⟨I,y,rfl,Q,u,p,A⟩:=H j k o;obtain⟨w,B,q,-⟩:=h.nd I y u;rw [if_pos Q]at q;exact⟨w,y.c,yQ B,p,by rw [q.now,A];rfl⟩
  ·obtain⟨j,o⟩:=List.getElem?_of_mem hd;have C:j<it.ks.length:=by have:=(gS.1 o).1;omega
   obtain⟨I,y,-,-,u,p,A⟩:=H j _ (gE C);rw [o]at p;obtain rfl:=oI p;have:=N y (qS u) s;rwa [A]at this
 obtain⟨z,R,z2,z3⟩:=step_ok r D l2 O (i it x b r G);have S:n<v.nodes.length:=(gS.1 r).1;refine⟨_,R,by rw [List.length_set];exact h.len,λg X o=>?_⟩
 by_cases c:g=n
 ·subst c;obtain rfl:=oI (b.symm.trans o);rw [if_pos (Nat.lt_succ_self _)];exact⟨z,List.getElem?_set_self S,z2,z3.trans G⟩
 ·obtain⟨w,B,q,Y⟩:=h.nd g X o;refine⟨w,by rw [List.getElem?_set_ne (Ne.symm c)];exact B,?_,Y⟩;have e:(g<n+1)=(g<n):=by apply propext;omega
  simp only [e];exact q
theorem tX.next (h:tX E L v.nodes L.length t):tX E L v.nodes 0 (t+1):=by
 refine⟨h.len,λg it b=>?_⟩;obtain⟨x,e,d,i⟩:=h.nd g it b;rw [if_pos (gS.1 b).1]at d;exact⟨x,e,by rw [if_neg (by omega)];exact d,i⟩
theorem tX.now (h:tX E L v.nodes n t){g:Nat}{it:Itm}(b:L[g]? =some it)(e:g<n): ∃x,v.nodes[g]? =some x/\x.now=den E (mkN it.M it.c) t:=by
 obtain⟨x,i,d,-⟩:=h.nd g it b;rw [if_pos e]at d;exact⟨x,i,d.now⟩
end
def wN (v:gG)(told:List gY)(ph:List Bool)(ns:List gI):gG:=gG.mk v.r v.names v.dens told v.frames ph ns v.first v.moves v.rules
section
variable {E:En}{L:List Itm}{t f0:Nat}{v:gG}{ns0:List gI}{told:List gY}{ph:List Bool}
theorem bAr {α:Type}{n i:Nat}{a x:α}(h:(List.replicate n a)[i]? =some x):i<n:=by
 have:=(gS.1 h).1;rwa [List.length_replicate]at this
theorem next1 (D:aUr L)(h:tX E L ns0 0 t)(A:v.first=(f0:Int))(G:f0<=L.length)(C:L.length<=1000000000)(H: ∀it∈L,∀s,0<=den E (mkN it.M it.c) s/\den E (mkN it.M it.c) s<=2)
  (d: ∀n ns it x,n<f0->tX E L ns n t->L[n]? =some it->ns[n]? =some x->x.rule=it.rule->Looks E it.M t it.c x (wN v told v.phase ns)):
  ∃ns,Ffl v told (0,ns0)=some ns/\tX E L ns f0 t:=by
 unfold Ffl;have q:=bT (body:=λj (s:Int×List gI)=>
   gJ (decide (s.1<v.first)) λk=>
   gK k
   (gB (Faa (gG.mk (Rules.mk v.r.Phases v.r.Moves v.r.Rules) v.names v.dens told v.frames v.phase s.2 v.first v.moves v.rules) s.1) λo=>
   gJ (IntKind.i64.wrap (s.1+1)) λp=>
   j (p,o))
   (some s.2)) (λ(i:Nat) (s:List gI)=>((i:Int),s)) (List.replicate f0 ()) (λi s=>tX E L s i t) (λ(r:List gI)=>tX E L r f0 t) (by rw [List.length_replicate];omega)
   (λI i s _ J _ w=>by
    have e:=bAr J;obtain⟨ns,K,N⟩:=aLj (v:=wN v told v.phase s) D w (by omega) H (λit x a b c=>d i s it x e w a b c);have B:Faa (gG.mk (Rules.mk v.r.Phases v.r.Moves v.r.Rules) v.names v.dens told v.frames v.phase s v.first v.moves v.rules) (i:Int)=some ns:=K;refine⟨ns,N,?_⟩;simp only [zH];rw [A,yP e,zS,<-A,B,zC,fO e (by omega)])
   (λI s w=>by
    rw [List.length_replicate]at w⊢;simp only [zH];rw [A,yR,zK];exact⟨_,rfl,w⟩) ns0 h
 exact q
theorem next2 (D:aUr L)(h:tX E L ns0 f0 t)(G:v.first=(f0:Int))(H:f0<=L.length)(C:L.length<=1000000000)(I: ∀it∈L,∀s,0<=den E (mkN it.M it.c) s/\den E (mkN it.M it.c) s<=2)
  (e: ∀n ns it x,f0<=n->tX E L ns n t->L[n]? =some it->ns[n]? =some x->x.rule=it.rule->Looks E it.M t it.c x (wN v told ph ns)):
  ∃ns,Fg6 v told ph (v.first,ns0)=some ns/\tX E L ns L.length t:=by
 unfold Fg6;have q:=bT (body:=λp (s:Int×List gI)=>
   gJ (s.2.length:Int) λw=>
   gJ (decide (s.1<w)) λA=>
   gK A
   (gB (Faa (gG.mk (Rules.mk v.r.Phases v.r.Moves v.r.Rules) v.names v.dens told v.frames ph s.2 v.first v.moves v.rules) s.1) λj=>
   gJ (IntKind.i64.wrap (s.1+1)) λk=>
   p (k,j))
   (some s.2)) (λ(i:Nat) (s:List gI)=>(((f0+i:Nat):Int),s)) (List.replicate (L.length-f0) ()) (λi s=>tX E L s (f0+i) t) (λ(r:List gI)=>tX E L r L.length t) (by rw [List.length_replicate];omega)
   (λJ i s _ K _ d=>by
    have N:=bAr K;obtain⟨ns,O,Q⟩:=aLj (v:=wN v told ph s) D d (by omega) I (λit x a b c=>e (f0+i) s it x (by omega) d a b c);have B:Faa (gG.mk (Rules.mk v.r.Phases v.r.Moves v.r.Rules) v.names v.dens told v.frames ph s v.first v.moves v.rules) ((f0+i:Nat):Int)=some ns:=O;refine⟨ns,Q,?_⟩;have o:decide (((f0+i:Nat):Int)<(s.length:Int))=true:=dT (by rw [d.len];omega);simp only [zH];rw [o,zS,B,zC,fO (n:=L.length) (show f0+i<L.length by omega) (by omega)];rfl)
   (λJ s d=>by
    rw [List.length_replicate]at d⊢;rw [show f0+(L.length-f0)=L.length by omega]at d⊢;have o:decide (((L.length:Nat):Int)<(s.length:Int))=false:=qD (by rw [d.len];omega);simp only [zH];rw [o,zK];exact⟨_,rfl,d⟩) ns0 h
 rw [G];exact q
theorem frame6_ok (o:aUr L)(h:tX E L v.nodes 0 t)(p:v.first=(f0:Int))(i:f0<=L.length)(e:L.length<=1000000000)(q: ∀it∈L,∀s,0<=den E (mkN it.M it.c) s/\den E (mkN it.M it.c) s<=2)(j:v.frames=(t:Int))(D:t<=1000000000)
  (b: ∀n ns it x,n<f0->tX E L ns n t->L[n]? =some it->ns[n]? =some x->x.rule=it.rule->Looks E it.M t it.c x (wN v told v.phase ns))
  (d: ∀n ns it x,f0<=n->tX E L ns n t->L[n]? =some it->ns[n]? =some x->x.rule=it.rule->Looks E it.M t it.c x (wN v told (E.ps t) ns))
  (k: ∀ns,tX E L ns f0 t->Fbe (wN v told v.phase ns) v.phase=some (E.ps t)):
  ∃ns,Fbm v told=some (gG.mk v.r v.names v.dens told ((t+1:Nat):Int) (E.ps t) ns v.first v.moves v.rules)/\tX E L ns 0 (t+1):=by
 obtain⟨u,A,a2⟩:=next1 o h p i e q b;obtain⟨w,B,C⟩:=next2 o a2 p i e q d;have m:=k u a2;have m':Fbe (gG.mk (Rules.mk v.r.Phases v.r.Moves v.r.Rules) v.names v.dens told v.frames v.phase u v.first v.moves v.rules) v.phase=some (E.ps t):=m;refine⟨w,?_,tX.next (v:=wN v told (E.ps t) w) C⟩;unfold Fbm;rw [A,zC,m',zC,B,zC];simp only [zH];rw [j,Go.OB.wrap_i64 (by omega) (by omega)];rfl
end
structure MvI (v:gG)(zs:List (fG×Int))(P:Nat):Prop where
 len:v.r.Moves.length=zs.length
 small:zs.length<=1000000
 ph:v.r.Phases.length=P
 mv: ∀(k:Nat) (z:fG×Int),zs[k]? =some z-> ∃m a y,v.r.Moves[k]? =some m/\at' v.moves (k:Int)=some a/\at' v.nodes a=some y/\y.now=z.2/\Fac v.r.Phases m.To=some z.1.to/\(0<=z.1.to/\z.1.to<P)/\ ∀(i:Nat) s,v.r.Phases[i]? =some s->(m.From=s↔z.1.from_=(i:Int))
section
variable {v:gG}{zs:List (fG×Int)}{P:Nat}
def mvB (K:gG)(k:Int):(Bool×Int×(List Bool)->Option (Bool×(List Bool)))->Bool×Int×(List Bool)->Option (Bool×(List Bool)):=λo ⟨e,d,b⟩=>
 gB (gJ (K.r.Moves.length:Int) λp=>
 gJ (decide (d<p)) λq=>
 gK q
 (some e)
 (some false)) λs=>
 gK s
 (gB (gB (at' K.r.Moves d) λh=>
 gB (at' K.r.Phases k) λu=>
 gJ (decide ((h.From:Str)≠u)) λw=>
 gK w
 (some (e,b))
 (gB (at' K.moves d) λA=>
 gB (at' K.nodes A) λi=>
 gB (gJ (decide (i.now≠1)) λB=>
 gK B
 (gB (Fac K.r.Phases h.To) λj=>
 gB (at' b j) λ_=>
 gB (set' b j true) λC=>
 some C)
 (some b)) λD=>
 gJ (decide (i.now≠2)) λG=>
 some (G,D))) λ⟨H,I⟩=>
 gJ (IntKind.i64.wrap (d+1)) λJ=>
 o (H,J,I))
 (some (e,b))
theorem mvB_eq (g:Int):Fer v g=fF (mvB v g):=rfl
theorem mvB_stop (_:MvI v zs P)(g i:Int)(b:List Bool){n:Nat}(d:0<n):dL (mvB v g) n (false,i,b)=some (false,b):=by
 obtain⟨m,rfl⟩: ∃m,n=m+1:=⟨n-1,by omega⟩;rw [dL];unfold mvB;simp only [zH];cases decide (i<(v.r.Moves.length:Int))<;>rfl
theorem mvB_ok (h:MvI v zs P) {p:Nat}{s:Str} (A:v.r.Phases[p]? =some s): ∀(d i n:Nat) (j:List Bool),i+d=zs.length->d<n->j.length=P->dL (mvB v (p:Int)) n (true,(i:Int),j)=some (qR (p:Int) (zs.drop i) j)
 |0,i,n,j,hd,N,k=>by
  obtain⟨m,rfl⟩: ∃m,n=m+1:=⟨n-1,by omega⟩;rw [dL,List.drop_of_length_le (by omega)];unfold mvB;simp only [zH];rw [qD (by rw [h.len];omega),zK,zC,zK];rfl
 |d+1,i,n,j,hd,N,k=>by
  obtain⟨m,rfl⟩: ∃m,n=m+1:=⟨n-1,by omega⟩;have hi:i<zs.length:=by omega
  obtain⟨q,a,y,O,Q,R,H,I,u,S⟩:=h.mv i zs[i] (gE hi);have B:zs.drop i=zs[i]::zs.drop (i+1):=List.drop_eq_getElem_cons hi;have C:=S p s A;have w:IntKind.i64.wrap ((i:Int)+1)=((i+1:Nat):Int):=fO hi (by have:=h.small;omega);obtain⟨_,J⟩:=wL (l:=j) (i:=zs[i].1.to) (by rw [k];exact u);have K:set' j zs[i].1.to true=some (j.set zs[i].1.to.toNat true):=by unfold set';rw [if_pos ⟨u.1,by rw [k];exact u.2⟩]
  rw [dL,B];have D:=λo (G:o.length=P)=>mvB_ok h A d (i+1) m o (by omega) (by omega) G
  generalize zs[i]=z at *
  obtain⟨mv,tr⟩:=z;dsimp only at H I u C J K;rw [qR];show gB _ _=_;simp only [zH];rw [dT (by rw [h.len];omega:(i:Int)<(v.r.Moves.length:Int)),zS,zC,zS,yQ O,zC,yQ A,zC]
  by_cases c:q.From=s
  ·have c': ¬mv.from_≠(p:Int):=λe=>e (C.1 c)
   rw [qD (λe=>e c),zK,Q,zC,R,zC,H]
   by_cases t1:tr=1
   ·rw [qD (λe=>e t1),zK,zC,dT (by omega:tr≠2),zC,if_pos (.inr t1)];dsimp only;rw [w];exact D j k
   ·rw [dT t1,zS,I,zC,J,zC,K,zC,zC,if_neg (by rintro(e|e);exact c' e;exact t1 e)]
    by_cases t2:tr=2
    ·rw [qD (λe=>e t2),zC,if_pos t2];dsimp only;exact mvB_stop h _ _ _ (by omega)
    ·rw [dT t2,zC,if_neg t2];dsimp only;rw [w];exact D _ (by rw [List.length_set];exact k)
  ·rw [dT c,zS,zC,if_pos (.inl λe=>c (C.2 e))];dsimp only;rw [w];exact D j k
end
section
variable {v:gG}{zs:List (fG×Int)}{P:Nat}
theorem moved_ok6 (h:MvI v zs P) (d:List Bool) (Y:d.length=P) (hP:P<=1000000):Fbe v d=some (wU zs d 0 (List.replicate P false)):=by
 have mk:make' 1 (d.length:Int) (false:Bool)=some (List.replicate P false):=by
  unfold make';rw [if_pos ⟨by omega,by omega,by omega⟩,Int.toNat_natCast,Y]
 have e:Fg1 v d (0,List.replicate P false)=some (wU zs d 0 (List.replicate P false)):=by
  unfold Fg1;have q:=bT (body:=λo (s:Int×List Bool)=>
   gJ (d.length:Int) λp=>
   gJ (decide (s.1<p)) λu=>
   gK u
   (gB (gB (at' d s.1) λw=>
   gJ (!w) λA=>
   gK A
   (some s.2)
   (gB (Fer v s.1 (true,0,s.2)) λ⟨B,j⟩=>
   gB (at' j s.1) λC=>
   gK C
   (gB (at' j s.1) λ_=>
   gB (set' j s.1 true) λD=>
   some D)
   (gB (at' j s.1) λ_=>
   gB (set' j s.1 B) λG=>
   some G))) λH=>
   gJ (IntKind.i64.wrap (s.1+1)) λI=>
   o (I,H))
   (some s.2)) (λ(i:Nat) (s:List Bool)=>((i:Int),s)) d (λi s=>s.length=P/\wU zs (d.drop i) i s=wU zs d 0 (List.replicate P false)) (λ(r:List Bool)=>r=wU zs d 0 (List.replicate P false)) (by omega)
   (λkk i s x O hi k=>by
    obtain⟨Q,k⟩:=k;have hd:d.drop i=x::d.drop (i+1):=by rw [List.drop_eq_getElem_cons hi];congr 1;rw [gE hi]at O;exact oI O
    refine⟨aDs zs i x s,⟨by rw [aHb];exact Q,by rw [<-k,hd,wU]⟩,?_⟩;obtain⟨nm,R⟩: ∃nm,v.r.Phases[i]? =some nm:=⟨_,gE (by rw [h.ph];omega)⟩;have hs:=h.small;have l2:Fer v (i:Int) (true,0,s)=some (qR (i:Int) zs s):=by
     rw [mvB_eq];unfold fF;exact mvB_ok h R zs.length 0 FU s (by omega) (nH (by omega)) Q
    have ml:=aBt (i:Int) zs s;obtain⟨b,J⟩:=wL (l:=(qR (i:Int) zs s).2) (i:=(i:Int)) ⟨by omega,by rw [ml];omega⟩;have hg:(qR (i:Int) zs s).2.getD i false=b:=by
     rw [rE]at J;rw [List.getD_eq_getElem?_getD,J];rfl
    have S: ∀z,set' (qR (i:Int) zs s).2 (i:Int) z=some ((qR (i:Int) zs s).2.set i z):=λz=>by unfold set';rw [if_pos ⟨by omega,by rw [ml];omega⟩,Int.toNat_natCast]
    simp only [zH];rw [yP hi,zS,yQ O,zC,fO hi (by omega)]
    cases x
    ·rw [Bool.not_false,zS,zC];rfl
    ·rw [Bool.not_true,zK,l2,zC];rw [J,zC];unfold aDs;rw [if_pos rfl,hg]
     cases b
     ·rw [zK,zC,S,zC,zC,Bool.false_or]
     ·rw [zS,zC,S,zC,zC,Bool.true_or])
   (λkk s k=>by
    obtain⟨Q,k⟩:=k;rw [List.drop_length,wU]at k;simp only [zH];rw [yR,zK];exact⟨_,rfl,k⟩) (List.replicate P false) ⟨List.length_replicate,rfl⟩
  obtain⟨r,X,q2⟩:=q;rw [q2]at X;exact X
 unfold Fbe;simp only [zH];rw [mk,zC,e];rfl
end
theorem aKr: ∀(cs:List Cond) (b:Nat) (c:Cond),dF b (cs++[c])=((dF b cs).1++kJ (b+(dF b cs).1.length) c,(dF b cs).2++[((b+(dF b cs).1.length+(kJ (b+(dF b cs).1.length) c).length-1:Nat):Int)])
 | [],b,c=>by
  rw [List.nil_append,dF,dF];simp [dF]
 |d::cs,b,c=>by
  rw [List.cons_append,dF,aKr cs,dF];have e:b+(kJ b d).length+(dF (b+(kJ b d).length) cs).1.length=b+(kJ b d++(dF (b+(kJ b d).length) cs).1).length:=by rw [List.length_append];omega
  rw [e,List.append_assoc,List.cons_append]
mutual
theorem aJe (b:Nat): ∀c:Cond,(kJ b c).length=cN c
 |⟨k,nm,d,op,n,fr,cs⟩=>by
  rw [kJ,List.length_append,List.length_singleton,aCb b cs,cN];omega
theorem aCb (b:Nat): ∀cs:List Cond,(dF b cs).1.length=cNs cs
 | []=>by rw [dF,cNs];rfl
 |c::cs=>by
  rw [dF,cNs,List.length_append,aJe b c,aCb _ cs]
end
def kE (rl:Str->Int)(it:It):gI:=
 gI.mk it.c it.ks (if it.c.Kind=7 then rl it.c.Name else 0) 0 0 (if it.c.Kind=11\/it.c.Kind=12\/it.c.Kind=13\/it.c.Kind=5 then List.replicate it.c.Frames.toNat 0 else []) 0 0 0 0 [] []
theorem node0_I {E:En}{M:Mk}{rl:Str->Int}{it:It} (h:aPe it.c):mQ E M 0 it.c it.ks (kE rl it):=by
 refine⟨rfl,rfl,rfl,λq=>?_,λk q b=>?_,λk q b=>rfl⟩
 ·have f:=h.fr (.inl q);refine aUj (by omega) _ ?_ rfl rfl rfl rfl;show(if _ then _ else _)=_;rw [if_pos (by omega)]
 ·have f:=h.fr (.inr q);refine⟨?_,by rw [win_zero];rfl,by rw [win_zero];rfl⟩;have e:(kE rl it).ring=List.replicate it.c.Frames.toNat 0:=by
   show(if _ then _ else _)=_;rw [if_pos (by omega)]
  rw [e];exact aLp (by omega)
def wQ (v:gG)(ns:List gI):gG:=gG.mk v.r v.names v.dens v.told v.frames v.phase ns v.first v.moves v.rules
structure AddI (v:gG)(rl:Str->Int)(c:Cond):Prop where
 fr:0<=c.Frames/\c.Frames<=4096
 ks:c.Kids.length<=200
 ru:c.Kind=7-> ∃k,Faf v.r c.Name=some k/\at' v.rules k=some (rl c.Name)
theorem ap240 {α:Type}(l:List α)(x:α)(h:l.length<=1000000):app' 240 l [x]=some (l++[x]):=by
 unfold app';rw [if_pos];constructor;simp [maxLen];omega;simp;omega
theorem ap8x {α:Type}(l:List α)(x:α)(h:l.length<=1000000):app' 8 l [x]=some (l++[x]):=by
 unfold app';rw [if_pos];constructor;simp [maxLen];omega;simp;omega
theorem bAj {v:gG}{rl:Str->Int} (p:Cond->Prop) (I: ∀c x:Cond,p c->x∈c.Kids->p x) (J: ∀c,p c->AddI v rl c): ∀(n:Nat) (c:Cond) (ns:List gI),dN c<=n->p c->ns.length+cN c<=1000000->
  Fa0 n (wQ v ns) c=some (((ns.length+cN c-1:Nat):Int),ns++(kJ ns.length c).map (kE rl))
 |0,c,ns,h,_,_=>by have:=pI c;omega
 |n+1,c,ns,hd,K,_=>by
  have w:=J c K;have S:=aAa c;have X:=aPy c;have kids:Fd3 (Fa0 n) (wQ v ns) c (0,(wQ v ns).nodes,[])=some (ns++(dF ns.length c.Kids).1.map (kE rl),(dF ns.length c.Kids).2):=by
   unfold Fd3;have Y:((0:Int),(wQ v ns).nodes,([]:List Int))=(λ(i:Nat)=>((i:Int),ns++(dF ns.length (c.Kids.take i)).1.map (kE rl),(dF ns.length (c.Kids.take i)).2)) 0:=by
    show _=((0:Int),ns++(dF ns.length (c.Kids.take 0)).1.map (kE rl),(dF ns.length (c.Kids.take 0)).2);rw [List.take_zero,dF,List.map_nil,List.append_nil];rfl
   rw [Y];refine xO (λ(i:Nat)=>((i:Int),ns++(dF ns.length (c.Kids.take i)).1.map (kE rl),(dF ns.length (c.Kids.take i)).2)) c.Kids _ (by have:=w.ks;omega) ?_ ?_
   ·intro kk i x B hi;have A:x∈c.Kids:=qS B;have O:c.Kids.take (i+1)=c.Kids.take i++[x]:=by rw [List.take_add_one,B];rfl
    have d1:=aJj A;have c1:cNs (c.Kids.take i)+cN x<=cNs c.Kids:=by
     have e1:cNs (c.Kids.take (i+1))<=cNs c.Kids:=by
      have q:=cNs_app (c.Kids.take (i+1)) (c.Kids.drop (i+1));rw [List.take_append_drop]at q;omega
     rw [O,cNs_app]at e1;have:cNs [x]=cN x:=by rw [cNs,cNs];omega
     omega
    have ll:(ns++(dF ns.length (c.Kids.take i)).1.map (kE rl)).length=ns.length+cNs (c.Kids.take i):=by rw [List.length_append,List.length_map,aCb]
    have Q:=bAj p I J n x (ns++(dF ns.length (c.Kids.take i)).1.map (kE rl)) (by omega) (I c x K A) (by rw [ll];omega);rw [ll]at Q;have C:Fa0 n (gG.mk (Rules.mk (wQ v ns).r.Phases (wQ v ns).r.Moves (wQ v ns).r.Rules) (wQ v ns).names (wQ v ns).dens (wQ v ns).told (wQ v ns).frames (wQ v ns).phase (ns++(dF ns.length (c.Kids.take i)).1.map (kE rl)) (wQ v ns).first (wQ v ns).moves (wQ v ns).rules) x=_:=Q;have l2:(dF ns.length (c.Kids.take i)).2.length<=1000000:=by
     rw [(aNh ns.length (c.Kids.take i)).2.1,List.length_take];have:=w.ks;omega
    simp only [zH];rw [yP hi,zS,yQ B,zC,C,zC,ap8x _ _ l2,zC,fO hi (by have:=w.ks;omega),O,aKr];dsimp only;rw [aCb,aJe,List.map_append,List.append_assoc]
   ·intro kk;simp only [zH,List.take_length];rw [yR,zK]
  show Fcs (Fa0 n) (wQ v ns) c=_;unfold Fcs;rw [kids,zC];have ln:(ns++(dF ns.length c.Kids).1.map (kE rl)).length=ns.length+cNs c.Kids:=by rw [List.length_append,List.length_map,aCb]
  have mk:make' 1 c.Frames (0:Int)=some (List.replicate c.Frames.toNat 0):=by
   have:=w.fr;unfold make';rw [if_pos ⟨by omega,by omega,by omega⟩]
  have fin: ∀(a:Int) (b:List Int),a=(if c.Kind=7 then rl c.Name else 0)->b=(if c.Kind=11\/c.Kind=12\/c.Kind=13\/c.Kind=5 then List.replicate c.Frames.toNat 0 else [])->
    (gB (app' 240 (ns++(dF ns.length c.Kids).1.map (kE rl)) [gI.mk (Cond.mk c.Kind c.Name c.Other c.Op c.N c.Frames c.Kids) (dF ns.length c.Kids).2 a 0 0 b 0 0 0 0 [] []]) λj=>
     gJ (j.length:Int) λo=>gJ (IntKind.i64.wrap (o-1)) λs=>some (s,j))=some (((ns.length+cN c-1:Nat):Int),ns++(kJ ns.length c).map (kE rl)):=by
   intro a b ha D;rw [ap240 _ _ (by rw [ln];omega),zC];simp only [zH];rw [jO,List.length_append,ln,List.length_singleton,Go.OB.wrap_i64 (by omega) (by omega),aQy,List.map_append,<-List.append_assoc,ha,D];refine congrArg some (Prod.ext ?_ rfl);show _=(_:Int);omega
  simp only [zH]
  by_cases u:c.Kind=7
  ·obtain⟨k,r1,r2⟩:=w.ru u;have G:Faf (Rules.mk (wQ v ns).r.Phases (wQ v ns).r.Moves (wQ v ns).r.Rules) c.Name=some k:=r1;have H:at' (wQ v ns).rules k=some (rl c.Name):=r2;rw [dT u,zS,G,zC,H,zC,zC];exact fin _ _ (by rw [if_pos u]) (by rw [if_neg (by omega)])
  ·rw [qD u,zK]
   by_cases R:c.Kind=11\/c.Kind=12\/c.Kind=13\/c.Kind=5
   ·have g:gK (decide (c.Kind=11)) (some (decide (c.Kind=11))) (gK (decide (c.Kind=12)) (some (decide (c.Kind=12))) (gK (decide (c.Kind=13)) (some (decide (c.Kind=13))) (some (decide (c.Kind=5)))))=some true:=by
     by_cases a:c.Kind=11<;>by_cases b:c.Kind=12<;>by_cases d:c.Kind=13<;>by_cases e:c.Kind=5<;>simp [gK,a,b,d,e]<;>omega
    rw [g,zC,zS,mk,zC,zC];exact fin _ _ (by rw [if_neg u]) (by rw [if_pos R])
   ·have g:gK (decide (c.Kind=11)) (some (decide (c.Kind=11))) (gK (decide (c.Kind=12)) (some (decide (c.Kind=12))) (gK (decide (c.Kind=13)) (some (decide (c.Kind=13))) (some (decide (c.Kind=5)))))=some false:=by
     rw [qD (by omega: ¬c.Kind=11),qD (by omega: ¬c.Kind=12),qD (by omega: ¬c.Kind=13),qD (by omega: ¬c.Kind=5)];rfl
    rw [g,zC,zK,zC];exact fin _ _ (by rw [if_neg u]) (by rw [if_neg R])
where
 cNs_app: ∀a b:List Cond,cNs (a++b)=cNs a+cNs b
  | [],b=>by rw [List.nil_append,cNs];omega
  |x::a,b=>by rw [List.cons_append,cNs,cNs,cNs_app a b];omega
theorem aLe: ∀a b:List Cond,cNs (a++b)=cNs a+cNs b
 | [],b=>by rw [List.nil_append,cNs];omega
 |x::a,b=>by rw [List.cons_append,cNs,cNs,aLe a b];omega
theorem aLz: ∀(a cs:List Cond) (b:Nat),kH b (a++cs)=kH b a++kH (b+(aA b a).length) cs
 | [],cs,b=>by simp [kH,aA]
 |c::a,cs,b=>by
  rw [List.cons_append,kH,kH,aLz a cs,aA,List.cons_append,List.length_append]
  congr 3;omega
theorem mP: ∀(cs:List Cond) (b:Nat),(aA b cs).length=cNs cs
 | [],b=>by rw [aA,cNs];rfl
 |c::cs,b=>by rw [aA,cNs,List.length_append,aJe,mP cs]
theorem aPx (cs:List Cond)(b:Nat)(c:Cond):aA b (cs++[c])=aA b cs++kJ (b+cNs cs) c:=by
 rw [aXa,aA,aA,List.append_nil,mP]
theorem aPd (cs:List Cond)(b:Nat)(c:Cond):kH b (cs++[c])=kH b cs++[((b+cNs cs+cN c-1:Nat):Int)]:=by
 rw [aLz,kH,kH,mP,aJe]
theorem ap16x {α:Type}(l:List α)(x:α)(h:l.length<=1000000):app' 16 l [x]=some (l++[x]):=by
 unfold app';rw [if_pos];constructor;simp [maxLen];omega;simp;omega
theorem empty1 (l:List Track) (j:l.length<=1000000):Fhn l (0,[],[])=some (l.map Track.Name,l.map λt=>t.Series.Den):=by
 unfold Fhn;refine xO (λ(i:Nat)=>((i:Int),(l.take i).map Track.Name,(l.take i).map λt=>t.Series.Den)) l _ (by omega) ?_ ?_;intro e i x d hi;have h:l.take (i+1)=l.take i++[x]:=by rw [List.take_add_one,d];rfl
 have b:(l.take i).length<=1000000:=by rw [List.length_take];omega
 simp only [zH];rw [yP hi,zS,yQ d];simp only [zC];rw [ap16x _ _ (by rw [List.length_map];exact b),zC,ap8x _ _ (by rw [List.length_map];exact b),zC,fO hi (by omega),h,List.map_append,List.map_append];rfl;intro e;simp only [zH,List.take_length];rw [yR,zK]
theorem empty2 {r:Rules}{ph:List Bool}{nm:List Str}{ds:List Int}{rl:Str->Int} (p:Cond->Prop) (k: ∀c x:Cond,p c->x∈c.Kids->p x) (o: ∀v c,p c->AddI v rl c) (hm: ∀m∈r.Moves,p m.When) (u:r.Moves.length<=1000) (hd: ∀m∈r.Moves,dN m.When<=1000000) (w:cNs (r.Moves.map dH.When)<=1000000):
  Fhk r ph nm ds (0,[],[])=some ((aA 0 (r.Moves.map dH.When)).map (kE rl),kH 0 (r.Moves.map dH.When)):=by
 unfold Fhk;refine xO (λ(i:Nat)=>((i:Int),(aA 0 ((r.Moves.take i).map dH.When)).map (kE rl),kH 0 ((r.Moves.take i).map dH.When))) r.Moves _ (by omega) ?_ ?_
 ·intro s i x d hi;have b:=qS d;have h:(r.Moves.take (i+1)).map dH.When=(r.Moves.take i).map dH.When++[x.When]:=by rw [List.take_add_one,d,List.map_append];rfl
  have A:cNs ((r.Moves.take i).map dH.When)+cN x.When<=cNs (r.Moves.map dH.When):=by
   have q:=aLe ((r.Moves.take (i+1)).map dH.When) ((r.Moves.drop (i+1)).map dH.When);rw [<-List.map_append,List.take_append_drop,h,aLe]at q;have:cNs [x.When]=cN x.When:=by rw [cNs,cNs];omega
   omega
  have ll:((aA 0 ((r.Moves.take i).map dH.When)).map (kE rl)).length=cNs ((r.Moves.take i).map dH.When):=by rw [List.length_map,mP]
  have j:=bAj (v:=gG.mk r nm ds [] 0 ph ((aA 0 ((r.Moves.take i).map dH.When)).map (kE rl)) 0 (kH 0 ((r.Moves.take i).map dH.When)) []) (rl:=rl) p k (o _) FU x.When ((aA 0 ((r.Moves.take i).map dH.When)).map (kE rl)) (Nat.le_of_lt (nH (by have:=hd x b;omega))) (hm x b) (by rw [ll];omega);rw [ll]at j;have e:Fcd (gG.mk (Rules.mk r.Phases r.Moves r.Rules) nm ds [] 0 ph ((aA 0 ((r.Moves.take i).map dH.When)).map (kE rl)) 0 (kH 0 ((r.Moves.take i).map dH.When)) []) x.When=_:=j;have le:(kH 0 ((r.Moves.take i).map dH.When)).length<=1000000:=by rw [aCh,List.length_map,List.length_take];omega
  simp only [zH];rw [yP hi,zS,yQ d,zC,e,zC,ap8x _ _ le,zC,fO hi (by omega),h,aPx,aPd];dsimp only;rw [List.map_append,Nat.zero_add]
 ·intro s;simp only [zH,List.take_length];rw [yR,zK]
theorem empty3 {r:Rules}{ph:List Bool}{nm:List Str}{ds:List Int}{rl:Str->Int}{ns:List gI}{mv:List Int}{f0:Int}
  (o: ∀(i:Nat) (x:fU),r.Rules[i]? =some x-> ∃p:Cond->Prop,(∀c y:Cond,p c->y∈c.Kids->p y)/\p x.When/\ ∀(v:gG) c,v.r=r->v.rules=kH ns.length ((r.Rules.take i).map fU.When)->p c->AddI v rl c)
  (C:r.Rules.length<=1000) (hd: ∀x∈r.Rules,dN x.When<=1000000) (D:ns.length+cNs (r.Rules.map fU.When)<=1000000):
  Fdq r ph nm ds mv f0 (0,ns,[])=some (ns++(aA ns.length (r.Rules.map fU.When)).map (kE rl),kH ns.length (r.Rules.map fU.When)):=by
 unfold Fdq;have s:((0:Int),ns,([]:List Int))=(λ(i:Nat)=>((i:Int),ns++(aA ns.length ((r.Rules.take i).map fU.When)).map (kE rl),kH ns.length ((r.Rules.take i).map fU.When))) 0:=by
  show _=((0:Int),ns++(aA ns.length ((r.Rules.take 0).map fU.When)).map (kE rl),kH ns.length ((r.Rules.take 0).map fU.When));rw [List.take_zero,List.map_nil,aA,kH,List.map_nil,List.append_nil]
 rw [s];refine xO (λ(i:Nat)=>((i:Int),ns++(aA ns.length ((r.Rules.take i).map fU.When)).map (kE rl),kH ns.length ((r.Rules.take i).map fU.When))) r.Rules _ (by omega) ?_ ?_
 ·intro u i x b hi;have d:=qS b;obtain⟨p,w,A,B⟩:=o i x b;have j:(r.Rules.take (i+1)).map fU.When=(r.Rules.take i).map fU.When++[x.When]:=by rw [List.take_add_one,b,List.map_append];rfl
  have G:cNs ((r.Rules.take i).map fU.When)+cN x.When<=cNs (r.Rules.map fU.When):=by
   have q:=aLe ((r.Rules.take (i+1)).map fU.When) ((r.Rules.drop (i+1)).map fU.When);rw [<-List.map_append,List.take_append_drop,j,aLe]at q;have:cNs [x.When]=cN x.When:=by rw [cNs,cNs];omega
   omega
  have ll:(ns++(aA ns.length ((r.Rules.take i).map fU.When)).map (kE rl)).length=ns.length+cNs ((r.Rules.take i).map fU.When):=by rw [List.length_append,List.length_map,mP]
  have k:=bAj (v:=gG.mk r nm ds [] 0 ph (ns++(aA ns.length ((r.Rules.take i).map fU.When)).map (kE rl)) f0 mv (kH ns.length ((r.Rules.take i).map fU.When))) (rl:=rl) p w (λc e=>B _ c rfl rfl e) FU x.When (ns++(aA ns.length ((r.Rules.take i).map fU.When)).map (kE rl)) (Nat.le_of_lt (nH (by have:=hd x d;omega))) A (by rw [ll];omega);rw [ll]at k;have h:Fcd (gG.mk (Rules.mk r.Phases r.Moves r.Rules) nm ds [] 0 ph (ns++(aA ns.length ((r.Rules.take i).map fU.When)).map (kE rl)) f0 mv (kH ns.length ((r.Rules.take i).map fU.When))) x.When=_:=k;have le:(kH ns.length ((r.Rules.take i).map fU.When)).length<=1000000:=by rw [aCh,List.length_map,List.length_take];omega
  simp only [zH];rw [yP hi,zS,yQ b,zC,h,zC,ap8x _ _ le,zC,fO hi (by omega),j,aPx,aPd];dsimp only;rw [List.map_append,List.append_assoc]
 ·intro u;simp only [zH,List.take_length];rw [yR,zK]
end Go.Lf
