/- Laws that the claim stands on; no condition beyond those stated. -/
import Derived.Test.YtibkjjklfhfipadGreatDoorUP
import Derived.Test.YtibkjjklfhfipadGreatDoorPLb
namespace Go.Lf
def opp (t:Int):Int:=if t=2 then 1 else if t=1 then 2 else 0
theorem aVn (t:Int):Fda t=some (opp t):=by
 unfold Fda opp;simp only [zH,xG];split;rfl;split<;>rfl
def uX (s w a t:Int):Int:=if t=s then s else if t=0 then(if a=w then 0 else a)else a
def cnt (t:Int)(l:List Int):Int:=(l.filter (λx=>decide (x=t))).length
def wV (l:List Int):Arr 3 Int:=⟨[cnt 0 l,cnt 1 l,cnt 2 l],rfl⟩
def aAz (n fr:Int)(l:List Int):Int:=if n<=cnt 2 l then 2 else if fr-n<cnt 1 l then 1 else 0
def aNv (fr:Int)(l:List Int):List Int:=if (l.length:Int)=fr then l.tail else l
def uB (a b last:Int):Int:=if b=2\/a=2/\last=2 then 2 else if b=1/\(a=1\/last=1)then 1 else 0
def aAv (t last:Int):Int:=if t=2/\last=1 then 2 else if t=1\/last=2 then 1 else 0
def aQm (m:gQ)(tr op n:Int):Int:=(Fbl (nM.mk tr op n) m).getD 0
def pairT (m:gQ)(a b da db op:Int):Int:=(Fbb (rZ.mk a b da db op) m).getD 0
def aDn (m:gQ)(tr n fr:Int)(last:List gY):Int×List gY:=((Fay (dO.mk tr n fr last) m).map λx=>(x.1,x.2.last)).getD (0,[])
def mD (m:gQ)(p:Int):Int:=(Fbh (qK.mk p) m).getD 0
def aCs (m:gQ)(r:Int):Int:=(at' m.rules r).getD 0
mutual
def stp (m:gQ):Nd->Int×Nd
 | .constant t=>(t,.constant t)
 | .number tr op n=>(aQm m tr op n,.number tr op n)
 | .pair a b da db op=>(pairT m a b da db op,.pair a b da db op)
 | .steady tr n fr last=>((aDn m tr n fr last).1,.steady tr n fr (aDn m tr n fr last).2)
 | .phase p=>(mD m p,.phase p)
 | .rule r=>(aCs m r,.rule r)
 | .not k=>(opp (stp m k).1,.not (stp m k).2)
 | .group c any=>(((aNp m c).map Prod.fst).foldl (uX (if any then 2 else 1) (if any then 1 else 2)) (if any then 1 else 2),.group ((aNp m c).map Prod.snd) any)
 | .count k n fr last _=>
  (aAz n fr (last++[(stp m k).1]),.count (stp m k).2 n fr (aNv fr (last++[(stp m k).1])) (wV (aNv fr (last++[(stp m k).1]))))
 | .since a b last _=>(uB (stp m a).1 (stp m b).1 last,.since (stp m a).2 (stp m b).2 (uB (stp m a).1 (stp m b).1 last) true)
 | .rises k last _=>(aAv (stp m k).1 last,.rises (stp m k).2 (stp m k).1 true)
def aNp (m:gQ):List Nd->List (Int×Nd)
 | []=>[]
 |k::a=>stp m k::aNp m a
end
theorem aMt (m:gQ): ∀l,aNp m l=l.map (stp m)
 | []=>by rw [aNp];rfl
 |k::a=>by rw [aNp,aMt m a];rfl
mutual
def wfN (T P R:Nat):Nd->Prop
 | .constant t=>0<=t/\t<=2
 | .number tr _ _=>0<=tr/\tr<T
 | .pair a b _ _ _=>(0<=a/\a<T)/\0<=b/\b<T
 | .steady tr _ fr last=>(0<=tr/\tr<T)/\(1<=fr/\fr<=1000000)/\(last.length:Int)<fr
 | .phase p=>0<=p/\p<P
 | .rule r=>0<=r/\r<R
 | .not k=>wfN T P R k
 | .group d _=>wfL T P R d/\d.length<=1000000
 | .count k n fr last c=>wfN T P R k/\(1<=fr/\fr<=1000000)/\(0<=n/\n<=1000000)/\(last.length:Int)<fr/\(∀t∈last,0<=t/\t<=2)/\c=wV last
 | .since a b last _=>wfN T P R a/\wfN T P R b/\0<=last/\last<=2
 | .rises k last _=>wfN T P R k/\0<=last/\last<=2
def wfL (T P R:Nat):List Nd->Prop
 | []=>True
 |k::a=>wfN T P R k/\wfL T P R a
end
mutual
def dpN:Nd->Nat
 | .not k=>dpN k+1
 | .group c _=>dpL c+1
 | .count k _ _ _ _=>dpN k+1
 | .since a b _ _=>max (dpN a) (dpN b)+1
 | .rises k _ _=>dpN k+1
 | .constant _=>0
 | .number _ _ _=>0
 | .pair _ _ _ _ _=>0
 | .steady _ _ _ _=>0
 | .phase _=>0
 | .rule _=>0
def dpL:List Nd->Nat
 | []=>0
 |k::a=>max (dpN k) (dpL a)
end
theorem aFk {T P R:Nat}: ∀{l:List Nd},wfL T P R l↔ ∀x∈l,wfN T P R x
 | []=>by simp [wfL]
 |k::a=>by simp [wfL,aFk]
theorem aQo: ∀{l:List Nd}{x:Nd},x∈l->dpN x<=dpL l
 |k::a,x,h=>by
  rw [dpL];rcases List.mem_cons.1 h with rfl|h
  ·exact Nat.le_max_left _ _
  ·exact Nat.le_trans (aQo h) (Nat.le_max_right _ _)
section
variable {rf:Nd->gQ->Option (Int×Nd)}{m:gQ}
theorem not_ok {k:Nd}(h:rf k m=some (stp m k)):Fcm rf (pW.mk k) m=some (opp (stp m k).1,pW.mk (stp m k).2):=by
 unfold Fcm;show gB (rf k m) _=_;rw [h];show gB (Fda _) _=_;rw [aVn];rfl
theorem aLc {a:List Nd} (s w:Int) (l:a.length<=1000000) (h: ∀k∈a,rf k m=some (stp m k)):
  Fcf rf m s w (a.length:Int) (w,0,a)=some (((a.map (stp m)).map Prod.fst).foldl (uX s w) w,(a.map (stp m)).map Prod.snd):=by
 unfold Fcf;refine xO (β:=Int×List Nd) (λi=>((((a.take i).map (stp m)).map Prod.fst).foldl (uX s w) w,(i:Int),((a.take i).map (stp m)).map Prod.snd++a.drop i)) a (some (((a.map (stp m)).map Prod.fst).foldl (uX s w) w,(a.map (stp m)).map Prod.snd)) (by omega) (λk i x d hi=>?_) (λk=>?_)
 ·have hd:a.drop i=x::a.drop (i+1):=by
   rw [List.drop_eq_getElem_cons hi];congr 1;exact(gS.1 d).2
  have e:a.take (i+1)=a.take i++[x]:=by
   rw [List.take_add_one,d];rfl
  have hm:x∈a:=qS d;have b:(((a.take i).map (stp m)).map Prod.snd).length=i:=by simp;omega
  simp only [zH,xG];rw [if_pos (by omega),hd,aXn _ _ _ i b];show gB (gB (rf x m) _) _=_;rw [h x hm,fO hi (by omega),e];have f:=bAc (((a.take i).map (stp m)).map Prod.snd) x (stp m x).2 (a.drop (i+1)) i b;have j: ∀o:Int,(gB (set' ((((a.take i).map (stp m)).map Prod.snd)++x::a.drop (i+1)) (i:Int) (stp m x).2) λy=>some (o,y))=some (o,(((a.take i).map (stp m)).map Prod.snd)++(stp m x).2::a.drop (i+1)):=by
   intro o;rw [f];rfl
  simp only [List.map_append,List.foldl_append,List.map_cons,List.map_nil,List.foldl_cons,List.foldl_nil,List.append_assoc,List.singleton_append];show gB (if (stp m x).1=s then _ else if (stp m x).1=0 then(if _ then _ else _)else _) _=_;simp only [j];unfold uX
  by_cases c:(stp m x).1=s
  ·rw [if_pos c,if_pos c];rfl
  ·rw [if_neg c,if_neg c]
   by_cases c2:(stp m x).1=0
   ·rw [if_pos c2,if_pos c2];split<;>rfl
   ·rw [if_neg c2,if_neg c2];rfl
 ·simp only [zH,xG];rw [if_neg (by omega)];simp
theorem group_ok {a:List Nd}{any:Bool} (b:a.length<=1000000) (h: ∀k∈a,rf k m=some (stp m k)):
    Fdb rf (jD.mk a any) m=some ((stp m (.group a any)).1,jD.mk ((a.map (stp m)).map Prod.snd) any):=by
 rw [stp,aMt];unfold Fdb;cases any;have q:=aLc (m:=m) 1 2 b h;simp only [gK,gB,zH];show gB (Fcf rf m 1 2 (a.length:Int) (2,0,a)) _=_;rw [q];rfl;have q:=aLc (m:=m) 2 1 b h;simp only [gK,gB,zH];show gB (Fcf rf m 2 1 (a.length:Int) (1,0,a)) _=_;rw [q];rfl
end
theorem cnt_le (t:Int)(l:List Int):0<=cnt t l/\cnt t l<=l.length:=by
 unfold cnt;have:=List.length_filter_le (λx=>decide (x=t)) l;omega
theorem aQn (t u:Int)(l:List Int):cnt t (l++[u])=cnt t l+if u=t then 1 else 0:=by
 unfold cnt;rw [List.filter_append,List.length_append];by_cases h:u=t<;>simp [h]
theorem rF (t u:Int)(l:List Int):cnt t (u::l)=(if u=t then 1 else 0)+cnt t l:=by
 unfold cnt;rw [List.filter_cons];by_cases h:u=t;simp [h];omega;simp [h]
theorem tri {t:Int}(h:0<=t/\t<=2):t=0\/t=1\/t=2:=by omega
theorem aJt {t:Int}(h:0<=t/\t<=2)(l:List Int):at' (wV l).l t=some (cnt t l):=by
 rcases tri h with rfl|rfl|rfl<;>rfl
theorem aSr {n:Nat}{a:Type}{X Y:Arr n a}(h:X.l=Y.l):X=Y:=by
 cases X;cases Y;cases h;rfl
theorem tots_app {t:Int}(h:0<=t/\t<=2)(l:List Int):Arr.set (wV l) t (cnt t l+1)=wV (l++[t]):=by
 apply aSr;rcases tri h with rfl|rfl|rfl<;>simp [Arr.set,wV,aQn]
theorem tots_tail {t:Int}(h:0<=t/\t<=2)(l:List Int):Arr.set (wV (t::l)) t (cnt t (t::l)-1)=wV l:=by
 apply aSr;rcases tri h with rfl|rfl|rfl<;>simp [Arr.set,wV,rF]<;>omega
theorem ap8 {l:List Int}{x:Int}(h:l.length<=1000000):app' 8 l [x]=some (l++[x]):=by
 unfold app';rw [if_pos ⟨by rw [Go.OB.maxLen_eq];simp;omega,by simp;omega⟩]
section
variable {rf:Nd->gQ->Option (Int×Nd)}{m:gQ}
theorem count_ok {k:Nd}{n fr:Int}{last:List Int} (p:rf k m=some (stp m k)) (i:0<=(stp m k).1/\(stp m k).1<=2) (A:1<=fr/\fr<=1000000) (B:0<=n/\n<=1000000) (C:(last.length:Int)<fr) (s: ∀t∈last,0<=t/\t<=2):
  Fdd rf (dM.mk k n fr last (wV last)) m=some (aAz n fr (last++[(stp m k).1]),dM.mk (stp m k).2 n fr (aNv fr (last++[(stp m k).1])) (wV (aNv fr (last++[(stp m k).1])))):=by
 unfold Fdd;show gB (rf k m) _=_;rw [p];generalize he:stp m k=y at i⊢;obtain⟨t,j⟩:=y;have D:=cnt_le t last;have u:IntKind.i64.wrap (cnt t last+1)=cnt t last+1:=Go.OB.wrap_i64 (by omega) (by omega);simp only [gB,zH,xG,aJt i,u,tots_app i,ap8 (l:=last) (x:=t) (by omega)];have c2:=cnt_le 2 (last++[t]);have c3:=cnt_le 1 (last++[t]);have v:IntKind.i64.wrap (fr-n)=fr-n:=Go.OB.wrap_i64 (by omega) (by omega);have fin: ∀(g:List Int×Arr 3 Int),(match at' (wV (last++[t])).l 2 with
   |some f=>if n<=f then some ((2:Int),dM.mk j n fr g.1 g.2)else
    match at' (wV (last++[t])).l 1 with
    |some h=>if IntKind.i64.wrap (fr-n)<h then some (1,dM.mk j n fr g.1 g.2)else some (0,dM.mk j n fr g.1 g.2)
    |none=>none
   |none=>none)=some (aAz n fr (last++[t]),dM.mk j n fr g.1 g.2):=by
  intro g;rw [aJt (by omega),aJt (by omega),v];unfold aAz;dsimp only;split
  ·rfl
  ·split<;>rfl
 by_cases c:((last++[t]).length:Int)=fr
 ·rw [if_pos c];unfold aNv;rw [if_pos c];obtain⟨e,r,d⟩: ∃e r,last++[t]=e::r:=by
   cases last with
   |nil=>exact⟨t,[],rfl⟩
   |cons a b=>exact⟨a,b++[t],rfl⟩
  have hh:0<=e/\e<=2:=by
   have:e∈last++[t]:=by rw [d];simp
   rcases mA.1 this with q|q
   ·exact s _ q
   ·obtain rfl:=mS.1 q;exact i
  have c4:=cnt_le e (last++[t]);have o:(last++[t]).length<=1000000:=by omega
  have w:IntKind.i64.wrap (cnt e (last++[t])-1)=cnt e (last++[t])-1:=Go.OB.wrap_i64 (by omega) (by omega);have a0:at' (last++[t]) 0=some e:=by rw [d];rfl
  have z:sub' (last++[t]) 1 ((last++[t]).length:Int)=some r:=by
   unfold sub';rw [if_pos ⟨by omega,by rw [d];simp;omega,by omega⟩,d];simp
  rw [a0];dsimp only;rw [aJt hh];dsimp only;rw [w,z];dsimp only;rw [d]at fin⊢;rw [tots_tail hh];exact fin (r,wV r)
 ·rw [if_neg c];unfold aNv;rw [if_neg c];exact fin (last++[t],wV (last++[t]))
theorem since_ok {a b:Nd}{last:Int}{d:Bool}(e:rf a m=some (stp m a))(f:rf b m=some (stp m b)):
    Fdj rf (jB.mk a b last d) m=some (uB (stp m a).1 (stp m b).1 last,jB.mk (stp m a).2 (stp m b).2 (uB (stp m a).1 (stp m b).1 last) true):=by
 unfold Fdj;show gB (rf a m) _=_;rw [e];show gB (rf b m) _=_;rw [f];unfold uB;simp only [gB,zH,xG];by_cases c:(stp m b).1=2;simp [c,gK];by_cases c2:(stp m a).1=2<;>by_cases c3:last=2<;>by_cases c4:(stp m b).1=1<;>by_cases c5:(stp m a).1=1<;>by_cases h:last=1<;>simp [c,c2,c3,c4,c5,h,gK]<;>omega
theorem rises_ok {k:Nd}{last:Int}{a:Bool}(b:rf k m=some (stp m k)):
    Fdg rf (jC.mk k last a) m=some (aAv (stp m k).1 last,jC.mk (stp m k).2 (stp m k).1 true):=by
 unfold Fdg;show gB (rf k m) _=_;rw [b];unfold aAv;simp only [gB,zH,xG];by_cases c:(stp m k).1=2<;>by_cases c2:(stp m k).1=1<;>by_cases c3:last=1<;>by_cases c4:last=2<;>simp [c,c2,c3,c4,gK]<;>omega
end
theorem aJz (n:Int): ∃r,Fao n=some r/\ -1<=r/\r<=1:=by
 unfold Fao;simp only [zH,xG];split;exact⟨_,rfl,by omega,by omega⟩;split;exact⟨_,rfl,by omega,by omega⟩;exact⟨_,rfl,by omega,by omega⟩
theorem wE (o c:Int): ∃b,Fbr o c=some b:=by
 unfold Fbr;simp only [zH,xG]
 repeat' split
 all_goals exact⟨_,rfl⟩
theorem aAs (b:Bool): ∃t,Fbz b=some t/\0<=t/\t<=2:=by
 cases b;exact⟨1,rfl,by omega,by omega⟩;exact⟨2,rfl,by omega,by omega⟩
theorem shr32 (a:Int):aEa .u64 a 32=some (a/2^32):=by
 unfold aEa;rfl
theorem aFo (a b:Int): ∃p,Fba a b=some p:=by
 unfold Fba;simp only [zH,gB,shr32];exact⟨_,rfl⟩
theorem cf_ex (a b c d:Int): ∃r,Fbv a b c d=some r:=by
 unfold Fbv;obtain⟨s,k,-⟩:=aJz a;obtain⟨u,l,-⟩:=aJz c;simp only [k,l,gB,zH,xG];split;obtain⟨_,e,-⟩:=aJz (IntKind.i64.wrap (s-u));rw [e];exact⟨_,rfl⟩;obtain⟨⟨f,h⟩,e⟩:=aFo (IntKind.u64.wrap (IntKind.i64.wrap (a*s))) (IntKind.u64.wrap d);obtain⟨⟨i,j⟩,n⟩:=aFo (IntKind.u64.wrap (IntKind.i64.wrap (c*s))) (IntKind.u64.wrap b);simp only [e,n];by_cases o:f<i<;>by_cases c2:f=i<;>by_cases c3:h<j<;>by_cases c4:h=j<;>simp [o,c2,c3,c4,gK]
section
variable {m:gQ}
theorem wL {a:Type}{l:List a}{i:Int}(h:0<=i/\i<l.length): ∃x,at' l i=some x:=by
 unfold at';rw [if_pos h.1];exact⟨l[i.toNat]'(by omega),gE (by omega)⟩
theorem aOu {tr op n:Int} (h:0<=tr/\tr<m.told.length): ∃r,Fbl (nM.mk tr op n) m=some r/\0<=r/\r<=2:=by
 unfold Fbl;obtain⟨x,a⟩:=wL h;show ∃r,gB (at' m.told tr) _=_/\_;rw [a];simp only [gB,zH];cases x.Known;exact⟨0,rfl,by omega,by omega⟩;obtain⟨s,c,-⟩:=aJz (IntKind.i64.wrap (x.N-n));obtain⟨b,d⟩:=wE op s;obtain⟨t,e,f⟩:=aAs b;refine⟨t,?_,f⟩;simp [gK,c,d,e]
theorem bBx {a b da db op:Int} (h:(0<=a/\a<m.told.length)/\0<=b/\b<m.told.length): ∃r,Fbb (rZ.mk a b da db op) m=some r/\0<=r/\r<=2:=by
 unfold Fbb;obtain⟨x,d⟩:=wL h.1;obtain⟨y,e⟩:=wL h.2;show ∃r,gB (at' m.told a) _=_/\_;rw [d];show ∃r,gB (at' m.told b) _=_/\_;rw [e];simp only [gB,zH];obtain⟨s,f⟩:=cf_ex x.N da y.N db;obtain⟨c,i⟩:=wE op s;obtain⟨t,j,k⟩:=aAs c;cases x.Known;exact⟨0,rfl,by omega,by omega⟩;cases y.Known;exact⟨0,rfl,by omega,by omega⟩;refine⟨t,?_,k⟩;simp [gK,f,i,j]
theorem aVl (l:List gY) (d:l.length<=2000000): ∃r,Fbf l (l.length:Int) (0,0,0,0)=some r:=by
 suffices q: ∃r,Fbf l (l.length:Int) (0,0,0,0)=some r/\True by
  obtain⟨r,h,-⟩:=q;exact⟨r,h⟩
 unfold Fbf;refine bT (β:=Int×Int×Int) (λi (s:Int×Int×Int)=>(s.1,s.2.1,s.2.2,(i:Int))) l (λ_ _=>True) (λ_=>True) (by omega) (λk i s x b hi _=>?_) (λk s _=>?_) (0,0,0) trivial
 ·obtain⟨s1,s2,a⟩:=s;simp only [zH,xG];rw [if_pos (by omega),yQ b,fO hi (by omega)];simp only [gB]
  cases x.Known
  ·exact⟨(s1,s2,a),trivial,rfl⟩
  ·refine⟨(IntKind.i64.wrap (s1+1),min (if s1=0 then x.N else s2) x.N,max (if s1=0 then x.N else a) x.N),trivial,?_⟩
   by_cases c:s1=0
   ·subst c;rfl
   ·simp only [c,gK,if_false,Bool.not_true]
 ·obtain⟨s1,s2,a⟩:=s;simp only [zH,xG];rw [if_neg (by omega)];exact⟨_,rfl,trivial⟩
theorem ap16 {a:Type}{l:List a}{x:a}(h:l.length<=1000000):app' 16 l [x]=some (l++[x]):=by
 unfold app';rw [if_pos ⟨by rw [Go.OB.maxLen_eq];simp;omega,by simp;omega⟩]
theorem steady_ex {tr n fr:Int}{last:List gY} (h:0<=tr/\tr<m.told.length) (j:1<=fr/\fr<=1000000) (k:(last.length:Int)<fr):
  ∃t b,Fay (dO.mk tr n fr last) m=some (t,dO.mk tr n fr b)/\(0<=t/\t<=2)/\(b.length:Int)<fr:=by
 unfold Fay;obtain⟨x,c⟩:=wL h;show ∃t b,gB (at' m.told tr) _=_/\_;rw [c];obtain⟨⟨g1,g2,g3⟩,d⟩:=aVl (last++[x]) (by simp;omega);have a:((last++[x]).length:Int)=last.length+1:=by simp
 have e:IntKind.i64.wrap (((last++[x]).length:Int)-fr)=(last.length:Int)+1-fr:=by rw [a];exact Go.OB.wrap_i64 (by omega) (by omega)
 have f:IntKind.i64.wrap ((last.length:Int)+1-fr+1)=(last.length:Int)+1-fr+1:=Go.OB.wrap_i64 (by omega) (by omega);have i:sub' (last++[x]) (max 0 ((last.length:Int)+1-fr+1)) ((last++[x]).length:Int)=some (((last++[x]).drop (max 0 ((last.length:Int)+1-fr+1)).toNat).take (((last++[x]).length:Int)-max 0 ((last.length:Int)+1-fr+1)).toNat):=by
  unfold sub';rw [if_pos ⟨by omega,by omega,by omega⟩]
 have hd:((((last++[x]).drop (max 0 ((last.length:Int)+1-fr+1)).toNat).take (((last++[x]).length:Int)-max 0 ((last.length:Int)+1-fr+1)).toNat).length:Int)<fr:=by
  rw [List.length_take,List.length_drop];omega
 simp only [gB,zH,ap16 (l:=last) (x:=x) (by omega),d,e,f,i,xG];split
 ·exact⟨1,_,rfl,by omega,hd⟩
 ·split
  ·exact⟨2,_,rfl,by omega,hd⟩
  ·exact⟨0,_,rfl,by omega,hd⟩
theorem aMx (l:List Bool) (t:List gY) (a:List Int) (c:l.length<=2000000): ∃r,Fbn (gQ.mk t l a) (l.length:Int) (0,0)=some r:=by
 suffices q: ∃r,Fbn (gQ.mk t l a) (l.length:Int) (0,0)=some r/\True by
  obtain⟨r,h,-⟩:=q;exact⟨r,h⟩
 unfold Fbn;refine bT (β:=Int) (λi (s:Int)=>(s,(i:Int))) l (λ_ _=>True) (λ_=>True) (by omega) (λk i s x b hi _=>?_) (λk s _=>?_) 0 trivial
 ·simp only [zH,xG];rw [if_pos (by omega),yQ b,fO hi (by omega)]
  cases x
  ·exact⟨_,trivial,rfl⟩
  ·exact⟨_,trivial,rfl⟩
 ·simp only [zH,xG];rw [if_neg (by omega)];exact⟨_,rfl,trivial⟩
theorem aVd {p:Int} (h:0<=p/\p<m.possible.length) (b:m.possible.length<=2000000): ∃r,Fbh (qK.mk p) m=some r/\0<=r/\r<=2:=by
 obtain⟨c,ps,d⟩:=m;unfold Fbh;obtain⟨g,e⟩:=aMx ps c d b;obtain⟨x,a⟩:=wL h;simp only [zH,gB];rw [e];dsimp only at a⊢;rw [a];dsimp only;cases x;exact⟨1,rfl,by omega,by omega⟩;simp only [Bool.not_true,gK];split;exact⟨2,rfl,by omega,by omega⟩;exact⟨0,rfl,by omega,by omega⟩
end
theorem aRi {s w:Int} (a:0<=s/\s<=2): ∀(l:List Int) (o:Int),0<=o/\o<=2->0<=l.foldl (uX s w) o/\l.foldl (uX s w) o<=2
 | [],o,h=>h
 |t::l,o,h=>by
  rw [List.foldl_cons];refine aRi a l _ ?_;unfold uX;split
  ·exact a
  ·split
   ·split
    ·omega
    ·exact h
   ·exact h
theorem aTp (n fr:Int)(l:List Int):0<=aAz n fr l/\aAz n fr l<=2:=by
 unfold aAz;split;omega;split<;>omega
theorem aBb (a b l:Int):0<=uB a b l/\uB a b l<=2:=by
 unfold uB;split;omega;split<;>omega
theorem aLm (a l:Int):0<=aAv a l/\aAv a l<=2:=by
 unfold aAv;split;omega;split<;>omega
theorem bCf (t:Int):0<=opp t/\opp t<=2:=by
 unfold opp;split;omega;split<;>omega
def aDt (m:gQ)(R:Nat)(rf:Nd->gQ->Option (Int×Nd))(a:Nd):Prop:=
 rf a m=some (stp m a)/\(0<=(stp m a).1/\(stp m a).1<=2)/\wfN m.told.length m.possible.length R (stp m a).2/\dpN (stp m a).2=dpN a
theorem bBb {m:gQ}: ∀(a:List Nd),(∀k∈a,dpN (stp m k).2=dpN k)->dpL ((a.map (stp m)).map Prod.snd)=dpL a
 | [],_=>rfl
 |k::a,h=>by
  rw [List.map_cons,List.map_cons,dpL,dpL,h k List.mem_cons_self,bBb a λx b=>h x (List.mem_cons_of_mem _ b)]
theorem node_B {m:gQ}{R n:Nat}{rf:Nd->gQ->Option (Int×Nd)} (J:m.possible.length<=2000000) (O:R<=m.rules.length) (K: ∀t∈m.rules,0<=t/\t<=2)
  (y: ∀k,dpN k<n->wfN m.told.length m.possible.length R k->aDt m R rf k) (D:Nd) (hd:dpN D<n+1) (f:wfN m.told.length m.possible.length R D):aDt m R (Fd2 rf) D:=by
 unfold aDt
 cases D with
 |constant t=>exact⟨by rw [stp];rfl,by rw [stp];exact f,by rw [stp];exact f,by rw [stp]⟩
 |number tr op k=>
  obtain⟨r,d,h⟩:=aOu (m:=m) (op:=op) (n:=k) f;have e:aQm m tr op k=r:=by unfold aQm;rw [d];rfl
  rw [stp,e];refine⟨?_,h,f,rfl⟩;show gB (Fbl (nM.mk tr op k) m) _=_;rw [d];rfl
 |pair a b da db op=>
  obtain⟨r,d,h⟩:=bBx (m:=m) (da:=da) (db:=db) (op:=op) f;have e:pairT m a b da db op=r:=by unfold pairT;rw [d];rfl
  rw [stp,e];refine⟨?_,h,f,rfl⟩;show gB (Fbb (rZ.mk a b da db op) m) _=_;rw [d];rfl
 |steady tr k fr last=>
  obtain⟨o,j,F⟩:=f;obtain⟨t,L,d,h,s⟩:=steady_ex (m:=m) (n:=k) o j F;have e:aDn m tr k fr last=(t,L):=by unfold aDn;rw [d];rfl
  rw [stp,e];refine⟨?_,h,⟨o,j,s⟩,rfl⟩;show gB (Fay (dO.mk tr k fr last) m) _=_;rw [d];rfl
 |phase p=>
  obtain⟨r,d,h⟩:=aVd (m:=m) f J;have e:mD m p=r:=by unfold mD;rw [d];rfl
  rw [stp,e];refine⟨?_,h,f,rfl⟩;show gB (Fbh (qK.mk p) m) _=_;rw [d];rfl
 |rule r=>
  have A:0<=r/\r<R:=f;obtain⟨x,u⟩:=wL (l:=m.rules) (i:=r) ⟨A.1,by omega⟩;have e:aCs m r=x:=by unfold aCs;rw [u];rfl
  rw [stp,e];refine⟨?_,K x ?_,f,rfl⟩
  ·show gB (gB (at' m.rules r) _) _=_;rw [u];rfl
  ·unfold at' at u;rw [if_pos A.1]at u;exact qS u
 |not k=>
  rw [dpN]at hd;obtain⟨d,h,s,v⟩:=y k (by omega) f;rw [stp];refine⟨?_,bCf _,s,by rw [dpN,dpN,v]⟩;show gB (Fcm rf (pW.mk k) m) _=_;rw [not_ok d];rfl
 |group z any=>
  rw [dpN]at hd;obtain⟨o,j⟩:=f;have w: ∀k∈z,aDt m R rf k:=λk hm=>y k (by have:=aQo hm;omega) (aFk.1 o k hm)
  have e:(stp m (.group z any)).2= .group ((z.map (stp m)).map Prod.snd) any:=by rw [stp,aMt]
  refine⟨?_,?_,?_,?_⟩
  ·show gB (Fdb rf (jD.mk z any) m) _=_;rw [group_ok j λk hm=>(w k hm).1];show some (_,_)=some (stp m (.group z any));rw [<-e]
  ·rw [stp];refine aRi ?_ _ _ ?_<;>cases any<;>simp
  ·rw [e];refine⟨aFk.2 λx u=>?_,by simpa using j⟩;rw [List.map_map,List.mem_map]at u;obtain⟨k,hm,rfl⟩:=u;exact(w k hm).2.2.1
  ·rw [e,dpN,dpN,bBb z λk hm=>(w k hm).2.2.2]
 |count k c fr last _=>
  rw [dpN]at hd;obtain⟨B,C,G,N,I,rfl⟩:=f;obtain⟨d,h,s,v⟩:=y k (by omega) B;rw [stp];refine⟨?_,aTp _ _ _,⟨s,C,G,?_,?_,rfl⟩,by rw [dpN,dpN,v]⟩
  ·show gB (Fdd rf (dM.mk k c fr last (wV last)) m) _=_;rw [count_ok d h C G N I];rfl
  ·unfold aNv;split
   ·rw [List.length_tail];omega
   ·rename_i q;simp at q⊢;omega
  ·intro t E;have:t∈last++[(stp m k).1]:=by
    unfold aNv at E;split at E
    ·exact List.mem_of_mem_tail E
    ·exact E
   rcases mA.1 this with q|q
   ·exact I t q
   ·obtain rfl:=mS.1 q;exact h
 |since a b last H=>
  rw [dpN]at hd;obtain⟨B,C,G⟩:=f;obtain⟨d,h,s,v⟩:=y a (by omega) B;obtain⟨g1,g2,g3,g4⟩:=y b (by omega) C;rw [stp];refine⟨?_,aBb _ _ _,⟨s,g3,aBb _ _ _⟩,by rw [dpN,dpN,v,g4]⟩;show gB (Fdj rf (jB.mk a b last H) m) _=_;rw [since_ok d g1];rfl
 |rises k last H=>
  rw [dpN]at hd;obtain⟨B,C⟩:=f;obtain⟨d,h,s,v⟩:=y k (by omega) B;rw [stp];refine⟨?_,aLm _ _,⟨s,h⟩,by rw [dpN,dpN,v]⟩;show gB (Fdg rf (jC.mk k last H) m) _=_;rw [rises_ok d];rfl
theorem node_R {m:gQ}{R:Nat}(c:m.possible.length<=2000000)(d:R<=m.rules.length)(e: ∀t∈m.rules,0<=t/\t<=2): ∀(n:Nat) (a:Nd),dpN a<n->wfN m.told.length m.possible.length R a->aDt m R (Fc7 n) a
 |0,_,hd,_=>by omega
 |n+1,a,hd,b=>node_B c d e (λk hd b=>node_R c d e n k hd b) a hd b
theorem aQx {m:gQ}{R:Nat}(b:m.possible.length<=2000000)(c:R<=m.rules.length)(d: ∀t∈m.rules,0<=t/\t<=2){a:Nd}(hd:dpN a<=1000000)(e:wfN m.told.length m.possible.length R a):aDt m R Fak a:=
 node_R b c d FU a (by have:(1000000:Nat)<FU:=nH (by omega);omega) e
def mvS (m:gQ)(x:fG):fG:=fG.mk x.from_ x.to (stp m x.when).2
theorem aWj {m:gQ} (l:List fG) (e:l.length<=1000000) (h: ∀x∈l,Fak x.when m=some (stp m x.when)):
  Fg4 m (l.length:Int) ([],0,l)=some (l.map (λx=>(stp m x.when).1),l.map (mvS m)):=by
 unfold Fg4;refine xO (β:=List Int×List fG) (λi=>((l.take i).map (λx=>(stp m x.when).1),(i:Int),(l.take i).map (mvS m)++l.drop i)) l (some (l.map (λx=>(stp m x.when).1),l.map (mvS m))) (by omega) (λk i x c hi=>?_) (λk=>?_)
 ·have hd:l.drop i=x::l.drop (i+1):=by
   rw [List.drop_eq_getElem_cons hi];congr 1;exact(gS.1 c).2
  have d:l.take (i+1)=l.take i++[x]:=by rw [List.take_add_one,c];rfl
  have a:((l.take i).map (mvS m)).length=i:=by simp;omega
  have b:((l.take i).map (λx=>(stp m x.when).1)).length<=1000000:=by simp;omega
  simp only [zH,xG];rw [if_pos (by omega),hd,aXn _ _ _ i a];show gB (Fak x.when m) _=_;rw [h x (qS c)];show gB (app' 8 _ _) _=_;rw [ap8 b,fO hi (by omega)];show gB (set' _ _ _) _=_;rw [bAc _ x _ _ i a,d];show k _=k _;simp [mvS]
 ·simp only [zH,xG];rw [if_neg (by omega)];simp
def rst (told:List gY)(ps:List Bool):List Int->List Nd->List (Int×Nd)
 |_,[]=>[]
 |a,k::b=>stp (gQ.mk told ps a) k::rst told ps (a++[(stp (gQ.mk told ps a) k).1]) b
theorem aBi {told:List gY}{ps:List Bool}: ∀(l:List Nd) (a:List Int),(rst told ps a l).length=l.length
 | [],_=>rfl
 |k::b,a=>by rw [rst,List.length_cons,List.length_cons,aBi b]
theorem aJu {told:List gY}{ps:List Bool}: ∀(l:List Nd) (a:List Int) (i:Nat) (k:Nd),l[i]? =some k->
  (rst told ps a l)[i]? =some (stp (gQ.mk told ps (a++((rst told ps a l).take i).map Prod.fst)) k)
 | [],_,i,k,h=>by simp at h
 |x::l,a,0,k,h=>by
  obtain rfl:x=k:=by simpa using h
  rw [rst];simp
 |x::l,a,i+1,k,h=>by
  rw [rst,List.getElem?_cons_succ,aJu l _ i k (by simpa using h)];simp
theorem aZn {told:List gY}{x40:fA} (l:List Nd) (n:l.length<=1000000)
  (h: ∀(i:Nat) k,l[i]? =some k->Fak k (gQ.mk told x40.possible (((rst told x40.possible [] l).take i).map Prod.fst))=some (stp (gQ.mk told x40.possible (((rst told x40.possible [] l).take i).map Prod.fst)) k)):
  Fh2 told x40 (l.length:Int) (0,l,[])=some ((rst told x40.possible [] l).map Prod.snd,(rst told x40.possible [] l).map Prod.fst):=by
 generalize hrs:rst told x40.possible [] l=rs at h;have e:rs.length=l.length:=by rw [<-hrs,aBi]
 unfold Fh2;refine xO (β:=List Nd×List Int) (λi=>((i:Int),(rs.take i).map Prod.snd++l.drop i,(rs.take i).map Prod.fst)) l (some (rs.map Prod.snd,rs.map Prod.fst)) (by omega) (λk i x c hi=>?_) (λk=>?_)
 ·have hd:l.drop i=x::l.drop (i+1):=by
   rw [List.drop_eq_getElem_cons hi];congr 1;exact(gS.1 c).2
  have d:rs[i]? =some (stp (gQ.mk told x40.possible ((rs.take i).map Prod.fst)) x):=by
   have:=aJu (told:=told) (ps:=x40.possible) l [] i x c;rw [hrs]at this;simpa using this
  have f:rs.take (i+1)=rs.take i++[stp (gQ.mk told x40.possible ((rs.take i).map Prod.fst)) x]:=by rw [List.take_add_one,d];rfl
  have a:((rs.take i).map Prod.snd).length=i:=by simp;omega
  have b:((rs.take i).map Prod.fst).length<=1000000:=by simp;omega
  simp only [zH,xG];rw [if_pos (by omega),hd,aXn _ _ _ i a];show gB (Fak x _) _=_;rw [h i x c];show gB (app' 8 _ _) _=_;rw [ap8 b,fO hi (by omega)];show gB (set' _ _ _) _=_;rw [bAc _ x _ _ i a,f];show k _=k _;simp
 ·simp only [zH,xG];rw [if_neg (by omega)];have j:rs.take l.length=rs:=List.take_of_length_le (by omega);simp [j]
def qR (p:Int):List (fG×Int)->List Bool->Bool×List Bool
 | [],a=>(true,a)
 |(mv,t)::r,a=>if mv.from_≠p\/t=1 then qR p r a else if t=2 then(false,a.set mv.to.toNat true)else qR p r (a.set mv.to.toNat true)
theorem aBt (p:Int): ∀(l:List (fG×Int)) (a:List Bool),(qR p l a).2.length=a.length
 | [],_=>rfl
 |(mv,t)::r,a=>by
  rw [qR];split
  ·exact aBt p r a
  ·split
   ·simp
   ·rw [aBt p r];simp
theorem aYc {a:Type}{l:List a}{i:Int}{x:a}(h:0<=i/\i<l.length):set' l i x=some (l.set i.toNat x):=by
 unfold set';rw [if_pos h]
def f3 (p:Int)(_:Nat)(y:fG×Int)(b:List Bool):List Bool ⊕ Option (Bool×List Bool):=
 if y.1.from_≠p then .inl b else if y.2=1 then .inl b else
 match at' b y.1.to with
 |none=> .inr none
 |some _=>match set' b y.1.to true with
  |none=> .inr none
  |some a=>if y.2=2 then .inr (some (false,a))else .inl a
theorem run3 (p:Int) (P:Nat): ∀(l:List (fG×Int)) (i:Nat) (a:List Bool),a.length=P->(∀y∈l,0<=y.1.to/\y.1.to<P)->
  aEd (f3 p) (λa=>some (true,a)) l i a=some (qR p l a)
 | [],_,a,_,_=>rfl
 |(mv,t)::r,i,a,b,h=>by
  have c:=h (mv,t) List.mem_cons_self;have e: ∀y∈r,0<=y.1.to/\y.1.to<P:=λy f=>h y (List.mem_cons_of_mem _ f)
  obtain⟨x,j⟩:=wL (l:=a) (i:=mv.to) ⟨c.1,by rw [b];exact c.2⟩;have k:=aYc (l:=a) (i:=mv.to) (x:=true) ⟨c.1,by rw [b];exact c.2⟩;rw [aEd,qR];unfold f3;dsimp only
  by_cases d:mv.from_≠p
  ·rw [if_pos d,if_pos (Or.inl d)];exact run3 p P r (i+1) a b e
  ·rw [if_neg d]
   by_cases c2:t=1
   ·rw [if_pos c2,if_pos (Or.inr c2)];exact run3 p P r (i+1) a b e
   ·rw [if_neg c2,if_neg (by intro q;rcases q with q|q;exact d q;exact c2 q),j,k];dsimp only
    by_cases c3:t=2
    ·rw [if_pos c3,if_pos c3]
    ·rw [if_neg c3,if_neg c3];exact run3 p P r (i+1) _ (by simpa using b) e
theorem L3_ok (p:Int) (ts:List Int) (a:List fG) (P:Nat) (n:a.length<=1000000) (f:ts.length=a.length) (c:List Bool) (j:c.length=P) (h: ∀y∈a,0<=y.to/\y.to<P):
  Fei ts a p (a.length:Int) (0,c)=some (qR p (a.zip ts) c):=by
 have l:(a.zip ts).length=a.length:=by simp [f]
 rw [<-run3 p P (a.zip ts) 0 c j (λy d=>h y.1 (List.of_mem_zip d).1)];refine vS (β:=Bool×List Bool) (λi (s:List Bool)=>((i:Int),s)) (a.zip ts) (f3 p) (λc=>some (true,c)) (by omega) (λk i s y d=>?_) (λk s=>?_) c
 ·have hi:i<a.length:=by rw [<-l];exact(gS.1 d).1
  obtain⟨mv,t⟩:=y;have hm:a[i]? =some mv/\ts[i]? =some t:=by
   rw [List.getElem?_zip_eq_some]at d;exact d
  simp only [zH,xG];rw [if_pos (by omega)];show cO _ _=_;unfold f3 cO;rw [yQ hm.1];simp only [gB]
  by_cases e:mv.from_≠p
  ·rw [if_pos e,if_pos e];simp only [gK];rw [fO hi (by omega)]
  ·rw [if_neg e,if_neg e,yQ hm.2];dsimp only
   by_cases c2:t=1
   ·rw [if_pos c2];simp only [c2,decide_true,gK];rw [fO hi (by omega)]
   ·rw [if_neg c2];simp only [c2,decide_false,gK]
    cases hx:at' s mv.to with
    |none=>rfl
    |some _=>
     cases hs:set' s mv.to true with
     |none=>rfl
     |some _=>
      dsimp only
      by_cases c3:t=2
      ·rw [if_pos c3,if_pos c3]
      ·rw [if_neg c3,if_neg c3,fO hi (by omega)]
 ·simp only [zH,xG];rw [if_neg (by omega)]
def aDs (zs:List (fG×Int))(i:Nat)(is:Bool)(a:List Bool):List Bool:=
 if is then(qR (i:Int) zs a).2.set i ((qR (i:Int) zs a).2.getD i false||(qR (i:Int) zs a).1)else a
def wU (zs:List (fG×Int)):List Bool->Nat->List Bool->List Bool
 | [],_,a=>a
 |is::r,i,a=>wU zs r (i+1) (aDs zs i is a)
theorem aHb (zs:List (fG×Int))(i:Nat)(is:Bool)(a:List Bool):(aDs zs i is a).length=a.length:=by
 unfold aDs;split;rw [List.length_set,aBt];rfl
theorem aNd (zs:List (fG×Int)): ∀(l:List Bool) (i:Nat) (a:List Bool),(wU zs l i a).length=a.length
 | [],_,_=>rfl
 |is::r,i,a=>by rw [wU,aNd zs r,aHb]
def f2 (ts:List Int)(a:List fG)(i:Nat)(is:Bool)(c:List Bool):List Bool ⊕ Option (List Bool):=
 if is then
  match Fei ts a (i:Int) (a.length:Int) (0,c)with
  |none=> .inr none
  |some y=>match at' y.2 (i:Int)with
   |none=> .inr none
   |some b=>match set' y.2 (i:Int) (if b then true else y.1)with
    |none=> .inr none
    |some z=> .inl z
 else .inl c
theorem run2 (ts:List Int) (a:List fG) (P:Nat) (j:a.length<=1000000) (k:ts.length=a.length) (h: ∀y∈a,0<=y.to/\y.to<P): ∀(l:List Bool) (i:Nat) (b:List Bool),b.length=P->i+l.length<=P->
  aEd (f2 ts a) some l i b=some (wU (a.zip ts) l i b)
 | [],_,_,_,_=>rfl
 |is::r,i,b,f,hi=>by
  have c:i+1+r.length<=P:=by rw [List.length_cons]at hi;omega
  rw [aEd,wU];unfold f2
  cases is
  ·simp only [Bool.false_eq_true,if_false];rw [show aDs (a.zip ts) i false b=b by unfold aDs;simp];exact run2 ts a P j k h r (i+1) b f c
  ·rw [L3_ok (i:Int) ts a P j k b f h];have n:(qR (i:Int) (a.zip ts) b).2.length=P:=by rw [aBt];exact f
   have d:i<(qR (i:Int) (a.zip ts) b).2.length:=by omega
   have o:at' (qR (i:Int) (a.zip ts) b).2 (i:Int)=some ((qR (i:Int) (a.zip ts) b).2.getD i false):=yQ (by rw [gE d,List.getD_eq_getElem?_getD,gE d];rfl);simp only [if_true];rw [o];dsimp only;rw [aYc ⟨by omega,by omega⟩];dsimp only;have e:(qR (i:Int) (a.zip ts) b).2.set (i:Int).toNat (if (qR (i:Int) (a.zip ts) b).2.getD i false then true else(qR (i:Int) (a.zip ts) b).1)=aDs (a.zip ts) i true b:=by
    unfold aDs;rw [if_pos rfl,Int.toNat_natCast]
    cases(qR (i:Int) (a.zip ts) b).2.getD i false<;>rfl
   rw [e];exact run2 ts a P j k h r (i+1) _ (by rw [aHb];exact f) c
theorem L2_ok (w:fA) (ts:List Int) (a:List fG) (P:Nat) (n:P<=1000000) (o:w.possible.length=P) (e:a.length<=1000000) (f:ts.length=a.length) (h: ∀y∈a,0<=y.to/\y.to<P) (c:List Bool) (j:c.length=P):
  Fh8 w ts a (w.possible.length:Int) (0,c)=some (wU (a.zip ts) w.possible 0 c):=by
 rw [<-run2 ts a P e f h w.possible 0 c j (by omega)];refine vS (β:=List Bool) (λi (s:List Bool)=>((i:Int),s)) w.possible (f2 ts a) some (by omega) (λk i s is d=>?_) (λk s=>?_) c
 ·have hi:i<w.possible.length:=(gS.1 d).1;simp only [zH,xG];rw [if_pos (by omega),yQ d];unfold f2;simp only [gB]
  cases is
  ·simp only [Bool.not_false,gK,Bool.false_eq_true,if_false];rw [fO hi (by omega)]
  ·simp only [Bool.not_true,gK,if_true]
   cases hL:Fei ts a (i:Int) (a.length:Int) (0,s)with
   |none=>rfl
   |some y=>
    obtain⟨l,z⟩:=y;dsimp only
    cases ha:at' z (i:Int)with
    |none=>rfl
    |some b=>
     cases b
     ·dsimp only;simp only [Bool.false_eq_true,if_false]
      cases hs:set' z (i:Int) l with
      |none=>rfl
      |some q=>dsimp only;rw [fO hi (by omega)]
     ·dsimp only;simp only [if_true]
      cases hs:set' z (i:Int) true with
      |none=>rfl
      |some q=>dsimp only;rw [fO hi (by omega)]
 ·simp only [zH,xG];rw [if_neg (by omega)]
structure WfW (w:fA)(T P:Nat):Prop where
 ph:w.phases.length=P
 po:w.possible.length=P
 pb:P<=1000000
 tr:w.tracks=(T:Int)
 ml:w.moves.length<=1000000
 rl:w.rules.length<=1000000
 mv: ∀x∈w.moves,(0<=x.to/\x.to<P)/\wfN T 0 0 x.when/\dpN x.when<=1000000
 ru: ∀(i:Nat) k,w.rules[i]? =some k->wfN T P i k/\dpN k<=1000000
def mv0 (told:List gY):gQ:=gQ.mk told [] []
def pV (told:List gY)(w:fA):List Bool:=
 wU ((w.moves.map (mvS (mv0 told))).zip (w.moves.map λx=>(stp (mv0 told) x.when).1)) w.possible 0 (List.replicate w.phases.length false)
def nxt (told:List gY)(w:fA):List Int×fA:=
 ((rst told (pV told w) [] w.rules).map Prod.fst,fA.mk w.phases w.tracks (w.moves.map (mvS (mv0 told))) ((rst told (pV told w) [] w.rules).map Prod.snd) (pV told w))
theorem rst_ok {told:List gY}{ps:List Bool}(d:ps.length<=2000000): ∀(l:List Nd) (a:List Int),(∀t∈a,0<=t/\t<=2)->(∀(j:Nat) k,l[j]? =some k->wfN told.length ps.length (a.length+j) k/\dpN k<=1000000)->
  ∀(j:Nat) k,l[j]? =some k->aDt (gQ.mk told ps (a++((rst told ps a l).take j).map Prod.fst)) (a.length+j) Fak k
 | [],_,_,_,j,k,h=>by simp at h
 |x::l,a,b,c,0,k,h=>by
  obtain rfl:x=k:=by simpa using h
  have q:=c 0 x rfl;have:=aQx (m:=gQ.mk told ps a) (R:=a.length) d (Nat.le_refl _) b q.2 q.1;simpa using this
 |x::l,a,b,c,j+1,k,h=>by
  have q:=c 0 x rfl;have o:=aQx (m:=gQ.mk told ps a) (R:=a.length) d (Nat.le_refl _) b q.2 q.1;have f:=rst_ok d l (a++[(stp (gQ.mk told ps a) x).1]) (λt n=>by
    rcases mA.1 n with h|h
    ·exact b t h
    ·obtain rfl:=mS.1 h;exact o.2.1) (λi y p=>by
    have:=c (i+1) y (by simpa using p);have e:(a++[(stp (gQ.mk told ps a) x).1]).length+i=a.length+(i+1):=by simp;omega
    rw [e];exact this) j k (by simpa using h)
  rw [rst];simp only [List.take_succ_cons,List.map_cons];have e:(a++[(stp (gQ.mk told ps a) x).1]).length+j=a.length+(j+1):=by simp;omega
  rw [e,List.append_assoc,List.singleton_append]at f;exact f
theorem moved_ok {told:List gY}{w:fA}{T P:Nat}(a:WfW w T P)(d:told.length=T):
  Fcw w (mv0 told)=some (fA.mk w.phases w.tracks (w.moves.map (mvS (mv0 told))) w.rules (pV told w))/\ ∀x∈w.moves,aDt (mv0 told) 0 Fak x.when:=by
 have c: ∀x∈w.moves,aDt (mv0 told) 0 Fak x.when:=λx b=>by
  have q:=a.mv x b;refine aQx (m:=mv0 told) (R:=0) (by simp [mv0]) (Nat.zero_le _) (by simp [mv0]) q.2.2 ?_;subst d;exact q.2.1
 refine⟨?_,c⟩;unfold Fcw;simp only [zH];rw [aWj w.moves a.ml λx b=>(c x b).1];have hm:make' 1 (w.phases.length:Int) false=some (List.replicate w.phases.length false):=by
  have:=a.pb;have:=a.ph;unfold make';rw [if_pos ⟨by omega,by omega,by omega⟩,Int.toNat_natCast]
 simp only [gB];rw [hm];dsimp only;rw [L2_ok w _ (w.moves.map (mvS (mv0 told))) P a.pb a.po (by rw [List.length_map];exact a.ml) (by simp) (λ_ e=>by
  obtain⟨x,b,rfl⟩:=List.mem_map.1 e;exact(a.mv x b).1) _ (by rw [List.length_replicate];exact a.ph)]
 rfl
theorem aQt {told:List gY}{w:fA}{T P:Nat} (b:WfW w T P) (f:told.length=T):
  Fb5 w told=some (nxt told w)/\WfW (nxt told w).2 T P/\(∀t∈(nxt told w).1,0<=t/\t<=2)/\(nxt told w).1.length=w.rules.length:=by
 obtain⟨m1,m2⟩:=moved_ok b f;have c:(pV told w).length=P:=by unfold pV;rw [aNd,List.length_replicate];exact b.ph
 have s:=rst_ok (told:=told) (ps:=pV told w) (by rw [c];have:=b.pb;omega) w.rules [] (by simp) (λj k h=>by
  have:=b.ru j k h;rw [f,c];simpa using this)
 have e: ∀(j:Nat) k,w.rules[j]? =some k->(rst told (pV told w) [] w.rules)[j]? =some (stp (gQ.mk told (pV told w) (((rst told (pV told w) [] w.rules).take j).map Prod.fst)) k):=λj k h=>by
  have:=aJu (told:=told) (ps:=pV told w) w.rules [] j k h;simpa using this
 have d: ∀(j:Nat) k,w.rules[j]? =some k->aDt (gQ.mk told (pV told w) (((rst told (pV told w) [] w.rules).take j).map Prod.fst)) j Fak k:=λj k h=>by
  have:=s j k h;simpa using this
 refine⟨?_,⟨b.ph,c,b.pb,b.tr,by show(w.moves.map _).length<=_;rw [List.length_map];exact b.ml,by show((rst told (pV told w) [] w.rules).map Prod.snd).length<=_;rw [List.length_map,aBi];exact b.rl,λy l=>?_,λi k u=>?_⟩,λt h=>?_,by show((rst told (pV told w) [] w.rules).map Prod.fst).length=_;rw [List.length_map,aBi]⟩
 ·unfold Fb5;show gB (Fcw w (mv0 told)) _=_;rw [m1];simp only [gB,zH];rw [aZn (x40:=fA.mk w.phases w.tracks (w.moves.map (mvS (mv0 told))) w.rules (pV told w)) w.rules b.rl λi k h=>(d i k h).1];rfl
 ·obtain⟨x,p,rfl⟩:=List.mem_map.1 l;have q:=b.mv x p;have o:=m2 x p;refine⟨q.1,?_,by rw [show(mvS (mv0 told) x).when=(stp (mv0 told) x.when).2 from rfl,o.2.2.2];exact q.2.2⟩;have:=o.2.2.1;subst f;exact this
 ·have a:((rst told (pV told w) [] w.rules).map Prod.snd)[i]? =some k:=u;rw [List.getElem?_map]at a
  cases hr:w.rules[i]? with
  |none=>
   have:(rst told (pV told w) [] w.rules)[i]? =none:=by
    rw [List.getElem?_eq_none_iff]at hr⊢;rw [aBi];exact hr
   rw [this]at a;cases a
  |some y=>
   rw [e i y hr]at a;simp only [Option.map_some,Option.some.injEq]at a;subst a;have o:=d i y hr;refine⟨?_,by rw [o.2.2.2];exact(b.ru i y hr).2⟩;have:=o.2.2.1;rw [<-f,<-c];exact this
 ·obtain⟨y,l,rfl⟩:=List.mem_map.1 h;obtain⟨j,n⟩:=List.getElem?_of_mem l;have r:j<w.rules.length:=by
   have:=(gS.1 n).1;rwa [aBi]at this
  have o:=d j _ (gE r);rw [e j _ (gE r)]at n;obtain rfl:=oI n;exact o.2.1
end Go.Lf
