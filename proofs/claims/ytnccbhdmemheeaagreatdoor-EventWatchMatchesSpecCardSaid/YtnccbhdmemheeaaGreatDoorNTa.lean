/- Laws that the claim stands on; no condition beyond those stated. -/
import Derived.Test.YtnccbhdmemheeaaGreatDoorUP
import Derived.Test.YtnccbhdmemheeaaGreatDoorPLb
namespace Go.Lf
def opp (t:Int):Int:=if t=2 then 1 else if t=1 then 2 else 0
theorem aVz (t:Int):Fcu t=some (opp t):=by
 unfold Fcu opp;simp only [zI,xE];split;rfl;split<;>rfl
def vW (s w a t:Int):Int:=if t=s then s else if t=0 then(if a=w then 0 else a)else a
def cnt (t:Int)(l:List Int):Int:=(l.filter (λx=>decide (x=t))).length
def wU (l:List Int):Arr 3 Int:=⟨[cnt 0 l,cnt 1 l,cnt 2 l],rfl⟩
def aHd (n fr:Int)(l:List Int):Int:=if n<=cnt 2 l then 2 else if fr-n<cnt 1 l then 1 else 0
def aNq (fr:Int)(l:List Int):List Int:=if (l.length:Int)=fr then l.tail else l
def uD (a b last:Int):Int:=if b=2\/a=2/\last=2 then 2 else if b=1/\(a=1\/last=1)then 1 else 0
def aEm (t last:Int):Int:=if t=2/\last=1 then 2 else if t=1\/last=2 then 1 else 0
def aQp (m:gU)(tr op n:Int):Int:=(Fbe (aK.mk tr op n) m).getD 0
def pairT (m:gU)(a b da db op:Int):Int:=(Fbb (jG.mk a b da db op) m).getD 0
def aDn (m:gU)(tr n fr:Int)(last:List fD):Int×List fD:=((Fa1 (dH.mk tr n fr last) m).map λx=>(x.1,x.2.last)).getD (0,[])
def uH (m:gU)(p:Int):Int:=(Fbk (kP.mk p) m).getD 0
def aIc (m:gU)(r:Int):Int:=(at' m.rules r).getD 0
mutual
def stp (m:gU):Nd->Int×Nd
 | .constant t=>(t,.constant t)
 | .number tr op n=>(aQp m tr op n,.number tr op n)
 | .pair a b da db op=>(pairT m a b da db op,.pair a b da db op)
 | .steady tr n fr last=>((aDn m tr n fr last).1,.steady tr n fr (aDn m tr n fr last).2)
 | .phase p=>(uH m p,.phase p)
 | .rule r=>(aIc m r,.rule r)
 | .not k=>(opp (stp m k).1,.not (stp m k).2)
 | .group ks c=>(((aNv m ks).map Prod.fst).foldl (vW (if c then 2 else 1) (if c then 1 else 2)) (if c then 1 else 2),.group ((aNv m ks).map Prod.snd) c)
 | .count k n fr last _=>
  (aHd n fr (last++[(stp m k).1]),.count (stp m k).2 n fr (aNq fr (last++[(stp m k).1])) (wU (aNq fr (last++[(stp m k).1]))))
 | .since a b last _=>(uD (stp m a).1 (stp m b).1 last,.since (stp m a).2 (stp m b).2 (uD (stp m a).1 (stp m b).1 last) true)
 | .rises k last _=>(aEm (stp m k).1 last,.rises (stp m k).2 (stp m k).1 true)
def aNv (m:gU):List Nd->List (Int×Nd)
 | []=>[]
 |k::ks=>stp m k::aNv m ks
end
theorem aKk (m:gU): ∀l,aNv m l=l.map (stp m)
 | []=>by rw [aNv];rfl
 |k::ks=>by rw [aNv,aKk m ks];rfl
mutual
def wfN (T P R:Nat):Nd->Prop
 | .constant t=>0<=t/\t<=2
 | .number tr _ _=>0<=tr/\tr<T
 | .pair a b _ _ _=>(0<=a/\a<T)/\0<=b/\b<T
 | .steady tr _ fr last=>(0<=tr/\tr<T)/\(1<=fr/\fr<=1000000)/\(last.length:Int)<fr
 | .phase p=>0<=p/\p<P
 | .rule r=>0<=r/\r<R
 | .not k=>wfN T P R k
 | .group ks _=>wfL T P R ks/\ks.length<=1000000
 | .count k n fr last c=>wfN T P R k/\(1<=fr/\fr<=1000000)/\(0<=n/\n<=1000000)/\(last.length:Int)<fr/\(∀t∈last,0<=t/\t<=2)/\c=wU last
 | .since a b last _=>wfN T P R a/\wfN T P R b/\0<=last/\last<=2
 | .rises k last _=>wfN T P R k/\0<=last/\last<=2
def wfL (T P R:Nat):List Nd->Prop
 | []=>True
 |k::ks=>wfN T P R k/\wfL T P R ks
end
mutual
def dpN:Nd->Nat
 | .not k=>dpN k+1
 | .group ks _=>dpL ks+1
 | .count k _ _ _ _=>dpN k+1
 | .since a b _ _=>max (dpN a) (dpN b)+1
 | .rises k _ _=>dpN k+1
 | .constant _=>0
 | .number _ _ _=>0
 | .pair _ _ _ _ _=>0
 | .steady _ _ _ _=>0
 | .phase _=>0
 | .rule _=>0
def dpL:List Nd->Nat
 | []=>0
 |k::ks=>max (dpN k) (dpL ks)
end
theorem aBh {T P R:Nat}: ∀{l:List Nd},wfL T P R l↔ ∀x∈l,wfN T P R x
 | []=>by simp [wfL]
 |k::ks=>by simp [wfL,aBh]
theorem aGg: ∀{l:List Nd}{x:Nd},x∈l->dpN x<=dpL l
 |k::ks,x,h=>by
  rw [dpL];rcases List.mem_cons.1 h with rfl|h
  ·exact Nat.le_max_left _ _
  ·exact Nat.le_trans (aGg h) (Nat.le_max_right _ _)
section
variable {rf:Nd->gU->Option (Int×Nd)}{m:gU}
theorem not_ok {k:Nd}(h:rf k m=some (stp m k)):Fce rf (kT.mk k) m=some (opp (stp m k).1,kT.mk (stp m k).2):=by
 unfold Fce;show gB (rf k m) _=_;rw [h];show gB (Fcu _) _=_;rw [aVz];rfl
theorem aLx {ks:List Nd} (s w:Int) (j:ks.length<=1000000) (h: ∀k∈ks,rf k m=some (stp m k)):
  Fct rf m s w (ks.length:Int) (w,0,ks)=some (((ks.map (stp m)).map Prod.fst).foldl (vW s w) w,(ks.map (stp m)).map Prod.snd):=by
 unfold Fct;refine dV (β:=Int×List Nd) (λi=>((((ks.take i).map (stp m)).map Prod.fst).foldl (vW s w) w,(i:Int),((ks.take i).map (stp m)).map Prod.snd++ks.drop i)) ks (some (((ks.map (stp m)).map Prod.fst).foldl (vW s w) w,(ks.map (stp m)).map Prod.snd)) (by omega) (λk i x c hi=>?_) (λk=>?_)
 ·have hd:ks.drop i=x::ks.drop (i+1):=by
   rw [List.drop_eq_getElem_cons hi];congr 1;exact(gS.1 c).2
  have d:ks.take (i+1)=ks.take i++[x]:=by
   rw [List.take_add_one,c];rfl
  have hm:x∈ks:=qS c;have a:(((ks.take i).map (stp m)).map Prod.snd).length=i:=by simp;omega
  simp only [zI,xE];rw [if_pos (by omega),hd,aYp _ _ _ i a];show gB (gB (rf x m) _) _=_;rw [h x hm,fQ hi (by omega),d];have e:=aXu (((ks.take i).map (stp m)).map Prod.snd) x (stp m x).2 (ks.drop (i+1)) i a;have f: ∀o:Int,(gB (set' ((((ks.take i).map (stp m)).map Prod.snd)++x::ks.drop (i+1)) (i:Int) (stp m x).2) λy=>some (o,y))=some (o,(((ks.take i).map (stp m)).map Prod.snd)++(stp m x).2::ks.drop (i+1)):=by
   intro o;rw [e];rfl
  simp only [List.map_append,List.foldl_append,List.map_cons,List.map_nil,List.foldl_cons,List.foldl_nil,List.append_assoc,List.singleton_append];show gB (if (stp m x).1=s then _ else if (stp m x).1=0 then(if _ then _ else _)else _) _=_;simp only [f];unfold vW
  by_cases b:(stp m x).1=s
  ·rw [if_pos b,if_pos b];rfl
  ·rw [if_neg b,if_neg b]
   by_cases c2:(stp m x).1=0
   ·rw [if_pos c2,if_pos c2];split<;>rfl
   ·rw [if_neg c2,if_neg c2];rfl
 ·simp only [zI,xE];rw [if_neg (by omega)];simp
theorem group_ok {ks:List Nd}{a:Bool} (b:ks.length<=1000000) (h: ∀k∈ks,rf k m=some (stp m k)):
    Fcr rf (dK.mk ks a) m=some ((stp m (.group ks a)).1,dK.mk ((ks.map (stp m)).map Prod.snd) a):=by
 rw [stp,aKk];unfold Fcr;cases a;have q:=aLx (m:=m) 1 2 b h;simp only [gQ,gB,zI];show gB (Fct rf m 1 2 (ks.length:Int) (2,0,ks)) _=_;rw [q];rfl;have q:=aLx (m:=m) 2 1 b h;simp only [gQ,gB,zI];show gB (Fct rf m 2 1 (ks.length:Int) (1,0,ks)) _=_;rw [q];rfl
end
theorem cnt_le (t:Int)(l:List Int):0<=cnt t l/\cnt t l<=l.length:=by
 unfold cnt;have:=List.length_filter_le (λx=>decide (x=t)) l;omega
theorem aRc (t u:Int)(l:List Int):cnt t (l++[u])=cnt t l+if u=t then 1 else 0:=by
 unfold cnt;rw [List.filter_append,List.length_append];by_cases h:u=t<;>simp [h]
theorem rO (t u:Int)(l:List Int):cnt t (u::l)=(if u=t then 1 else 0)+cnt t l:=by
 unfold cnt;rw [List.filter_cons];by_cases h:u=t;simp [h];omega;simp [h]
theorem tri {t:Int}(h:0<=t/\t<=2):t=0\/t=1\/t=2:=by omega
theorem aJi {t:Int}(h:0<=t/\t<=2)(l:List Int):at' (wU l).l t=some (cnt t l):=by
 rcases tri h with rfl|rfl|rfl<;>rfl
theorem aRy {n:Nat}{a:Type}{X Y:Arr n a}(h:X.l=Y.l):X=Y:=by
 cases X;cases Y;cases h;rfl
theorem tots_app {t:Int}(h:0<=t/\t<=2)(l:List Int):Arr.set (wU l) t (cnt t l+1)=wU (l++[t]):=by
 apply aRy;rcases tri h with rfl|rfl|rfl<;>simp [Arr.set,wU,aRc]
theorem tots_tail {t:Int}(h:0<=t/\t<=2)(l:List Int):Arr.set (wU (t::l)) t (cnt t (t::l)-1)=wU l:=by
 apply aRy;rcases tri h with rfl|rfl|rfl<;>simp [Arr.set,wU,rO]<;>omega
theorem ap8 {l:List Int}{x:Int}(h:l.length<=1000000):app' 8 l [x]=some (l++[x]):=by
 unfold app';rw [if_pos ⟨by rw [Go.OB.maxLen_eq];simp;omega,by simp;omega⟩]
section
variable {rf:Nd->gU->Option (Int×Nd)}{m:gU}
theorem count_ok {k:Nd}{n fr:Int}{last:List Int} (p:rf k m=some (stp m k)) (i:0<=(stp m k).1/\(stp m k).1<=2) (A:1<=fr/\fr<=1000000) (B:0<=n/\n<=1000000) (C:(last.length:Int)<fr) (s: ∀t∈last,0<=t/\t<=2):
  Fcn rf (dE.mk k n fr last (wU last)) m=some (aHd n fr (last++[(stp m k).1]),dE.mk (stp m k).2 n fr (aNq fr (last++[(stp m k).1])) (wU (aNq fr (last++[(stp m k).1])))):=by
 unfold Fcn;show gB (rf k m) _=_;rw [p];generalize he:stp m k=y at i⊢;obtain⟨t,j⟩:=y;have D:=cnt_le t last;have u:IntKind.i64.wrap (cnt t last+1)=cnt t last+1:=Go.OB.wrap_i64 (by omega) (by omega);simp only [gB,zI,xE,aJi i,u,tots_app i,ap8 (l:=last) (x:=t) (by omega)];have c2:=cnt_le 2 (last++[t]);have c3:=cnt_le 1 (last++[t]);have v:IntKind.i64.wrap (fr-n)=fr-n:=Go.OB.wrap_i64 (by omega) (by omega);have fin: ∀(g:List Int×Arr 3 Int),(match at' (wU (last++[t])).l 2 with
   |some f=>if n<=f then some ((2:Int),dE.mk j n fr g.1 g.2)else
    match at' (wU (last++[t])).l 1 with
    |some h=>if IntKind.i64.wrap (fr-n)<h then some (1,dE.mk j n fr g.1 g.2)else some (0,dE.mk j n fr g.1 g.2)
    |none=>none
   |none=>none)=some (aHd n fr (last++[t]),dE.mk j n fr g.1 g.2):=by
  intro g;rw [aJi (by omega),aJi (by omega),v];unfold aHd;dsimp only;split
  ·rfl
  ·split<;>rfl
 by_cases c:((last++[t]).length:Int)=fr
 ·rw [if_pos c];unfold aNq;rw [if_pos c];obtain⟨e,r,d⟩: ∃e r,last++[t]=e::r:=by
   cases last with
   |nil=>exact⟨t,[],rfl⟩
   |cons a b=>exact⟨a,b++[t],rfl⟩
  have hh:0<=e/\e<=2:=by
   have:e∈last++[t]:=by rw [d];simp
   rcases mA.1 this with q|q
   ·exact s _ q
   ·obtain rfl:=mS.1 q;exact i
  have c4:=cnt_le e (last++[t]);have o:(last++[t]).length<=1000000:=by omega
  have w:IntKind.i64.wrap (cnt e (last++[t])-1)=cnt e (last++[t])-1:=Go.OB.wrap_i64 (by omega) (by omega);have a0:at' (last++[t]) 0=some e:=by rw [d];rfl
  have z:sub' (last++[t]) 1 ((last++[t]).length:Int)=some r:=by
   unfold sub';rw [if_pos ⟨by omega,by rw [d];simp;omega,by omega⟩,d];simp
  rw [a0];dsimp only;rw [aJi hh];dsimp only;rw [w,z];dsimp only;rw [d]at fin⊢;rw [tots_tail hh];exact fin (r,wU r)
 ·rw [if_neg c];unfold aNq;rw [if_neg c];exact fin (last++[t],wU (last++[t]))
theorem since_ok {a b:Nd}{last:Int}{d:Bool}(e:rf a m=some (stp m a))(f:rf b m=some (stp m b)):
    Fda rf (bI.mk a b last d) m=some (uD (stp m a).1 (stp m b).1 last,bI.mk (stp m a).2 (stp m b).2 (uD (stp m a).1 (stp m b).1 last) true):=by
 unfold Fda;show gB (rf a m) _=_;rw [e];show gB (rf b m) _=_;rw [f];unfold uD;simp only [gB,zI,xE];by_cases c:(stp m b).1=2;simp [c,gQ];by_cases c2:(stp m a).1=2<;>by_cases c3:last=2<;>by_cases c4:(stp m b).1=1<;>by_cases c5:(stp m a).1=1<;>by_cases h:last=1<;>simp [c,c2,c3,c4,c5,h,gQ]<;>omega
theorem rises_ok {k:Nd}{last:Int}{a:Bool}(b:rf k m=some (stp m k)):
    Fcz rf (bG.mk k last a) m=some (aEm (stp m k).1 last,bG.mk (stp m k).2 (stp m k).1 true):=by
 unfold Fcz;show gB (rf k m) _=_;rw [b];unfold aEm;simp only [gB,zI,xE];by_cases c:(stp m k).1=2<;>by_cases c2:(stp m k).1=1<;>by_cases c3:last=1<;>by_cases c4:last=2<;>simp [c,c2,c3,c4,gQ]<;>omega
end
theorem aJq (n:Int): ∃r,Faq n=some r/\ -1<=r/\r<=1:=by
 unfold Faq;simp only [zI,xE];split;exact⟨_,rfl,by omega,by omega⟩;split;exact⟨_,rfl,by omega,by omega⟩;exact⟨_,rfl,by omega,by omega⟩
theorem wE (o c:Int): ∃b,Fbz o c=some b:=by
 unfold Fbz;simp only [zI,xE]
 repeat' split
 all_goals exact⟨_,rfl⟩
theorem aAs (b:Bool): ∃t,Fca b=some t/\0<=t/\t<=2:=by
 cases b;exact⟨1,rfl,by omega,by omega⟩;exact⟨2,rfl,by omega,by omega⟩
theorem shr32 (a:Int):aIt .u64 a 32=some (a/2^32):=by
 unfold aIt;rfl
theorem aFy (a b:Int): ∃p,Fbl a b=some p:=by
 unfold Fbl;simp only [zI,gB,shr32];exact⟨_,rfl⟩
theorem cf_ex (a b c d:Int): ∃r,Fb8 a b c d=some r:=by
 unfold Fb8;obtain⟨s,k,-⟩:=aJq a;obtain⟨u,l,-⟩:=aJq c;simp only [k,l,gB,zI,xE];split;obtain⟨_,e,-⟩:=aJq (IntKind.i64.wrap (s-u));rw [e];exact⟨_,rfl⟩;obtain⟨⟨f,h⟩,e⟩:=aFy (IntKind.u64.wrap (IntKind.i64.wrap (a*s))) (IntKind.u64.wrap d);obtain⟨⟨i,j⟩,n⟩:=aFy (IntKind.u64.wrap (IntKind.i64.wrap (c*s))) (IntKind.u64.wrap b);simp only [e,n];by_cases o:f<i<;>by_cases c2:f=i<;>by_cases c3:h<j<;>by_cases c4:h=j<;>simp [o,c2,c3,c4,gQ]
section
variable {m:gU}
theorem wK {a:Type}{l:List a}{i:Int}(h:0<=i/\i<l.length): ∃x,at' l i=some x:=by
 unfold at';rw [if_pos h.1];exact⟨l[i.toNat]'(by omega),gE (by omega)⟩
theorem aOj {tr op n:Int} (h:0<=tr/\tr<m.told.length): ∃r,Fbe (aK.mk tr op n) m=some r/\0<=r/\r<=2:=by
 unfold Fbe;obtain⟨x,a⟩:=wK h;show ∃r,gB (at' m.told tr) _=_/\_;rw [a];simp only [gB,zI];cases x.Known;exact⟨0,rfl,by omega,by omega⟩;obtain⟨s,c,-⟩:=aJq (IntKind.i64.wrap (x.N-n));obtain⟨b,d⟩:=wE op s;obtain⟨t,e,f⟩:=aAs b;refine⟨t,?_,f⟩;simp [gQ,c,d,e]
theorem bBh {a b da db op:Int} (h:(0<=a/\a<m.told.length)/\0<=b/\b<m.told.length): ∃r,Fbb (jG.mk a b da db op) m=some r/\0<=r/\r<=2:=by
 unfold Fbb;obtain⟨x,d⟩:=wK h.1;obtain⟨y,e⟩:=wK h.2;show ∃r,gB (at' m.told a) _=_/\_;rw [d];show ∃r,gB (at' m.told b) _=_/\_;rw [e];simp only [gB,zI];obtain⟨s,f⟩:=cf_ex x.N da y.N db;obtain⟨c,i⟩:=wE op s;obtain⟨t,j,k⟩:=aAs c;cases x.Known;exact⟨0,rfl,by omega,by omega⟩;cases y.Known;exact⟨0,rfl,by omega,by omega⟩;refine⟨t,?_,k⟩;simp [gQ,f,i,j]
theorem aUl (l:List fD) (d:l.length<=2000000): ∃r,Fbp l (l.length:Int) (0,0,0,0)=some r:=by
 suffices q: ∃r,Fbp l (l.length:Int) (0,0,0,0)=some r/\True by
  obtain⟨r,h,-⟩:=q;exact⟨r,h⟩
 unfold Fbp;refine aV (β:=Int×Int×Int) (λi (s:Int×Int×Int)=>(s.1,s.2.1,s.2.2,(i:Int))) l (λ_ _=>True) (λ_=>True) (by omega) (λk i s x b hi _=>?_) (λk s _=>?_) (0,0,0) trivial
 ·obtain⟨s1,s2,a⟩:=s;simp only [zI,xE];rw [if_pos (by omega),yR b,fQ hi (by omega)];simp only [gB]
  cases x.Known
  ·exact⟨(s1,s2,a),trivial,rfl⟩
  ·refine⟨(IntKind.i64.wrap (s1+1),min (if s1=0 then x.N else s2) x.N,max (if s1=0 then x.N else a) x.N),trivial,?_⟩
   by_cases c:s1=0
   ·subst c;rfl
   ·simp only [c,gQ,if_false,Bool.not_true]
 ·obtain⟨s1,s2,a⟩:=s;simp only [zI,xE];rw [if_neg (by omega)];exact⟨_,rfl,trivial⟩
theorem aXc {a:Type}{l:List a}{x:a}(h:l.length<=1000000):app' 16 l [x]=some (l++[x]):=by
 unfold app';rw [if_pos ⟨by rw [Go.OB.maxLen_eq];simp;omega,by simp;omega⟩]
theorem steady_ex {tr n fr:Int}{last:List fD} (h:0<=tr/\tr<m.told.length) (j:1<=fr/\fr<=1000000) (k:(last.length:Int)<fr):
  ∃t b,Fa1 (dH.mk tr n fr last) m=some (t,dH.mk tr n fr b)/\(0<=t/\t<=2)/\(b.length:Int)<fr:=by
 unfold Fa1;obtain⟨x,c⟩:=wK h;show ∃t b,gB (at' m.told tr) _=_/\_;rw [c];obtain⟨⟨g1,g2,g3⟩,d⟩:=aUl (last++[x]) (by simp;omega);have a:((last++[x]).length:Int)=last.length+1:=by simp
 have e:IntKind.i64.wrap (((last++[x]).length:Int)-fr)=(last.length:Int)+1-fr:=by rw [a];exact Go.OB.wrap_i64 (by omega) (by omega)
 have f:IntKind.i64.wrap ((last.length:Int)+1-fr+1)=(last.length:Int)+1-fr+1:=Go.OB.wrap_i64 (by omega) (by omega);have i:sub' (last++[x]) (max 0 ((last.length:Int)+1-fr+1)) ((last++[x]).length:Int)=some (((last++[x]).drop (max 0 ((last.length:Int)+1-fr+1)).toNat).take (((last++[x]).length:Int)-max 0 ((last.length:Int)+1-fr+1)).toNat):=by
  unfold sub';rw [if_pos ⟨by omega,by omega,by omega⟩]
 have hd:((((last++[x]).drop (max 0 ((last.length:Int)+1-fr+1)).toNat).take (((last++[x]).length:Int)-max 0 ((last.length:Int)+1-fr+1)).toNat).length:Int)<fr:=by
  rw [List.length_take,List.length_drop];omega
 simp only [gB,zI,aXc (l:=last) (x:=x) (by omega),d,e,f,i,xE];split
 ·exact⟨1,_,rfl,by omega,hd⟩
 ·split
  ·exact⟨2,_,rfl,by omega,hd⟩
  ·exact⟨0,_,rfl,by omega,hd⟩
theorem aLo (l:List Bool) (t:List fD) (a:List Int) (c:l.length<=2000000): ∃r,Fbt (gU.mk t l a) (l.length:Int) (0,0)=some r:=by
 suffices q: ∃r,Fbt (gU.mk t l a) (l.length:Int) (0,0)=some r/\True by
  obtain⟨r,h,-⟩:=q;exact⟨r,h⟩
 unfold Fbt;refine aV (β:=Int) (λi (s:Int)=>(s,(i:Int))) l (λ_ _=>True) (λ_=>True) (by omega) (λk i s x b hi _=>?_) (λk s _=>?_) 0 trivial
 ·simp only [zI,xE];rw [if_pos (by omega),yR b,fQ hi (by omega)]
  cases x
  ·exact⟨_,trivial,rfl⟩
  ·exact⟨_,trivial,rfl⟩
 ·simp only [zI,xE];rw [if_neg (by omega)];exact⟨_,rfl,trivial⟩
theorem aTb {p:Int} (h:0<=p/\p<m.possible.length) (b:m.possible.length<=2000000): ∃r,Fbk (kP.mk p) m=some r/\0<=r/\r<=2:=by
 obtain⟨c,ps,d⟩:=m;unfold Fbk;obtain⟨g,e⟩:=aLo ps c d b;obtain⟨x,a⟩:=wK h;simp only [zI,gB];rw [e];dsimp only at a⊢;rw [a];dsimp only;cases x;exact⟨1,rfl,by omega,by omega⟩;simp only [Bool.not_true,gQ];split;exact⟨2,rfl,by omega,by omega⟩;exact⟨0,rfl,by omega,by omega⟩
end
theorem aQr {s w:Int} (a:0<=s/\s<=2): ∀(l:List Int) (o:Int),0<=o/\o<=2->0<=l.foldl (vW s w) o/\l.foldl (vW s w) o<=2
 | [],o,h=>h
 |t::l,o,h=>by
  rw [List.foldl_cons];refine aQr a l _ ?_;unfold vW;split
  ·exact a
  ·split
   ·split
    ·omega
    ·exact h
   ·exact h
theorem aUy (n fr:Int)(l:List Int):0<=aHd n fr l/\aHd n fr l<=2:=by
 unfold aHd;split;omega;split<;>omega
theorem aBl (a b l:Int):0<=uD a b l/\uD a b l<=2:=by
 unfold uD;split;omega;split<;>omega
theorem aKr (a l:Int):0<=aEm a l/\aEm a l<=2:=by
 unfold aEm;split;omega;split<;>omega
theorem bAa (t:Int):0<=opp t/\opp t<=2:=by
 unfold opp;split;omega;split<;>omega
def aEa (m:gU)(R:Nat)(rf:Nd->gU->Option (Int×Nd))(a:Nd):Prop:=
 rf a m=some (stp m a)/\(0<=(stp m a).1/\(stp m a).1<=2)/\wfN m.told.length m.possible.length R (stp m a).2/\dpN (stp m a).2=dpN a
theorem bCb {m:gU}: ∀(ks:List Nd),(∀k∈ks,dpN (stp m k).2=dpN k)->dpL ((ks.map (stp m)).map Prod.snd)=dpL ks
 | [],_=>rfl
 |k::ks,h=>by
  rw [List.map_cons,List.map_cons,dpL,dpL,h k List.mem_cons_self,bCb ks λx a=>h x (List.mem_cons_of_mem _ a)]
theorem node_B {m:gU}{R n:Nat}{rf:Nd->gU->Option (Int×Nd)} (J:m.possible.length<=2000000) (O:R<=m.rules.length) (K: ∀t∈m.rules,0<=t/\t<=2)
  (z: ∀k,dpN k<n->wfN m.told.length m.possible.length R k->aEa m R rf k) (D:Nd) (hd:dpN D<n+1) (f:wfN m.told.length m.possible.length R D):aEa m R (Ffj rf) D:=by
 unfold aEa
 cases D with
 |constant t=>exact⟨by rw [stp];rfl,by rw [stp];exact f,by rw [stp];exact f,by rw [stp]⟩
 |number tr op k=>
  obtain⟨r,d,h⟩:=aOj (m:=m) (op:=op) (n:=k) f;have e:aQp m tr op k=r:=by unfold aQp;rw [d];rfl
  rw [stp,e];refine⟨?_,h,f,rfl⟩;show gB (Fbe (aK.mk tr op k) m) _=_;rw [d];rfl
 |pair a b da db op=>
  obtain⟨r,d,h⟩:=bBh (m:=m) (da:=da) (db:=db) (op:=op) f;have e:pairT m a b da db op=r:=by unfold pairT;rw [d];rfl
  rw [stp,e];refine⟨?_,h,f,rfl⟩;show gB (Fbb (jG.mk a b da db op) m) _=_;rw [d];rfl
 |steady tr k fr last=>
  obtain⟨s,j,F⟩:=f;obtain⟨t,L,d,h,u⟩:=steady_ex (m:=m) (n:=k) s j F;have e:aDn m tr k fr last=(t,L):=by unfold aDn;rw [d];rfl
  rw [stp,e];refine⟨?_,h,⟨s,j,u⟩,rfl⟩;show gB (Fa1 (dH.mk tr k fr last) m) _=_;rw [d];rfl
 |phase p=>
  obtain⟨r,d,h⟩:=aTb (m:=m) f J;have e:uH m p=r:=by unfold uH;rw [d];rfl
  rw [stp,e];refine⟨?_,h,f,rfl⟩;show gB (Fbk (kP.mk p) m) _=_;rw [d];rfl
 |rule r=>
  have A:0<=r/\r<R:=f;obtain⟨x,v⟩:=wK (l:=m.rules) (i:=r) ⟨A.1,by omega⟩;have e:aIc m r=x:=by unfold aIc;rw [v];rfl
  rw [stp,e];refine⟨?_,K x ?_,f,rfl⟩
  ·show gB (gB (at' m.rules r) _) _=_;rw [v];rfl
  ·unfold at' at v;rw [if_pos A.1]at v;exact qS v
 |not k=>
  rw [dpN]at hd;obtain⟨d,h,u,w⟩:=z k (by omega) f;rw [stp];refine⟨?_,bAa _,u,by rw [dpN,dpN,w]⟩;show gB (Fce rf (kT.mk k) m) _=_;rw [not_ok d];rfl
 |group ks o=>
  rw [dpN]at hd;obtain⟨s,j⟩:=f;have y: ∀k∈ks,aEa m R rf k:=λk hm=>z k (by have:=aGg hm;omega) (aBh.1 s k hm)
  have e:(stp m (.group ks o)).2= .group ((ks.map (stp m)).map Prod.snd) o:=by rw [stp,aKk]
  refine⟨?_,?_,?_,?_⟩
  ·show gB (Fcr rf (dK.mk ks o) m) _=_;rw [group_ok j λk hm=>(y k hm).1];show some (_,_)=some (stp m (.group ks o));rw [<-e]
  ·rw [stp];refine aQr ?_ _ _ ?_<;>cases o<;>simp
  ·rw [e];refine⟨aBh.2 λx v=>?_,by simpa using j⟩;rw [List.map_map,List.mem_map]at v;obtain⟨k,hm,rfl⟩:=v;exact(y k hm).2.2.1
  ·rw [e,dpN,dpN,bCb ks λk hm=>(y k hm).2.2.2]
 |count k c fr last _=>
  rw [dpN]at hd;obtain⟨B,C,G,N,I,rfl⟩:=f;obtain⟨d,h,u,w⟩:=z k (by omega) B;rw [stp];refine⟨?_,aUy _ _ _,⟨u,C,G,?_,?_,rfl⟩,by rw [dpN,dpN,w]⟩
  ·show gB (Fcn rf (dE.mk k c fr last (wU last)) m) _=_;rw [count_ok d h C G N I];rfl
  ·unfold aNq;split
   ·rw [List.length_tail];omega
   ·rename_i q;simp at q⊢;omega
  ·intro t E;have:t∈last++[(stp m k).1]:=by
    unfold aNq at E;split at E
    ·exact List.mem_of_mem_tail E
    ·exact E
   rcases mA.1 this with q|q
   ·exact I t q
   ·obtain rfl:=mS.1 q;exact h
 |since a b last H=>
  rw [dpN]at hd;obtain⟨B,C,G⟩:=f;obtain⟨d,h,u,w⟩:=z a (by omega) B;obtain⟨g1,g2,g3,g4⟩:=z b (by omega) C;rw [stp];refine⟨?_,aBl _ _ _,⟨u,g3,aBl _ _ _⟩,by rw [dpN,dpN,w,g4]⟩;show gB (Fda rf (bI.mk a b last H) m) _=_;rw [since_ok d g1];rfl
 |rises k last H=>
  rw [dpN]at hd;obtain⟨B,C⟩:=f;obtain⟨d,h,u,w⟩:=z k (by omega) B;rw [stp];refine⟨?_,aKr _ _,⟨u,h⟩,by rw [dpN,dpN,w]⟩;show gB (Fcz rf (bG.mk k last H) m) _=_;rw [rises_ok d];rfl
theorem node_R {m:gU}{R:Nat}(c:m.possible.length<=2000000)(d:R<=m.rules.length)(e: ∀t∈m.rules,0<=t/\t<=2): ∀(n:Nat) (a:Nd),dpN a<n->wfN m.told.length m.possible.length R a->aEa m R (Fcx n) a
 |0,_,hd,_=>by omega
 |n+1,a,hd,b=>node_B c d e (λk hd b=>node_R c d e n k hd b) a hd b
theorem aSr {m:gU}{R:Nat}(b:m.possible.length<=2000000)(c:R<=m.rules.length)(d: ∀t∈m.rules,0<=t/\t<=2){a:Nd}(hd:dpN a<=1000000)(e:wfN m.told.length m.possible.length R a):aEa m R Faj a:=
 node_R b c d FU a (by have:(1000000:Nat)<FU:=mM (by omega);omega) e
def mvS (m:gU)(x:fJ):fJ:=fJ.mk x.from_ x.to (stp m x.when).2
theorem aWf {m:gU} (l:List fJ) (e:l.length<=1000000) (h: ∀x∈l,Faj x.when m=some (stp m x.when)):
  Ff0 m (l.length:Int) ([],0,l)=some (l.map (λx=>(stp m x.when).1),l.map (mvS m)):=by
 unfold Ff0;refine dV (β:=List Int×List fJ) (λi=>((l.take i).map (λx=>(stp m x.when).1),(i:Int),(l.take i).map (mvS m)++l.drop i)) l (some (l.map (λx=>(stp m x.when).1),l.map (mvS m))) (by omega) (λk i x c hi=>?_) (λk=>?_)
 ·have hd:l.drop i=x::l.drop (i+1):=by
   rw [List.drop_eq_getElem_cons hi];congr 1;exact(gS.1 c).2
  have d:l.take (i+1)=l.take i++[x]:=by rw [List.take_add_one,c];rfl
  have a:((l.take i).map (mvS m)).length=i:=by simp;omega
  have b:((l.take i).map (λx=>(stp m x.when).1)).length<=1000000:=by simp;omega
  simp only [zI,xE];rw [if_pos (by omega),hd,aYp _ _ _ i a];show gB (Faj x.when m) _=_;rw [h x (qS c)];show gB (app' 8 _ _) _=_;rw [ap8 b,fQ hi (by omega)];show gB (set' _ _ _) _=_;rw [aXu _ x _ _ i a,d];show k _=k _;simp [mvS]
 ·simp only [zI,xE];rw [if_neg (by omega)];simp
def rst (told:List fD)(ps:List Bool):List Int->List Nd->List (Int×Nd)
 |_,[]=>[]
 |a,k::ks=>stp (gU.mk told ps a) k::rst told ps (a++[(stp (gU.mk told ps a) k).1]) ks
theorem aAw {told:List fD}{ps:List Bool}: ∀(l:List Nd) (a:List Int),(rst told ps a l).length=l.length
 | [],_=>rfl
 |k::ks,a=>by rw [rst,List.length_cons,List.length_cons,aAw ks]
theorem aJa {told:List fD}{ps:List Bool}: ∀(l:List Nd) (a:List Int) (i:Nat) (k:Nd),l[i]? =some k->
  (rst told ps a l)[i]? =some (stp (gU.mk told ps (a++((rst told ps a l).take i).map Prod.fst)) k)
 | [],_,i,k,h=>by simp at h
 |x::l,a,0,k,h=>by
  obtain rfl:x=k:=by simpa using h
  rw [rst];simp
 |x::l,a,i+1,k,h=>by
  rw [rst,List.getElem?_cons_succ,aJa l _ i k (by simpa using h)];simp
theorem aYz {told:List fD}{x40:gY} (l:List Nd) (n:l.length<=1000000)
  (h: ∀(i:Nat) k,l[i]? =some k->Faj k (gU.mk told x40.possible (((rst told x40.possible [] l).take i).map Prod.fst))=some (stp (gU.mk told x40.possible (((rst told x40.possible [] l).take i).map Prod.fst)) k)):
  Fg3 told x40 (l.length:Int) (0,l,[])=some ((rst told x40.possible [] l).map Prod.snd,(rst told x40.possible [] l).map Prod.fst):=by
 generalize hrs:rst told x40.possible [] l=rs at h;have e:rs.length=l.length:=by rw [<-hrs,aAw]
 unfold Fg3;refine dV (β:=List Nd×List Int) (λi=>((i:Int),(rs.take i).map Prod.snd++l.drop i,(rs.take i).map Prod.fst)) l (some (rs.map Prod.snd,rs.map Prod.fst)) (by omega) (λk i x c hi=>?_) (λk=>?_)
 ·have hd:l.drop i=x::l.drop (i+1):=by
   rw [List.drop_eq_getElem_cons hi];congr 1;exact(gS.1 c).2
  have d:rs[i]? =some (stp (gU.mk told x40.possible ((rs.take i).map Prod.fst)) x):=by
   have:=aJa (told:=told) (ps:=x40.possible) l [] i x c;rw [hrs]at this;simpa using this
  have f:rs.take (i+1)=rs.take i++[stp (gU.mk told x40.possible ((rs.take i).map Prod.fst)) x]:=by rw [List.take_add_one,d];rfl
  have a:((rs.take i).map Prod.snd).length=i:=by simp;omega
  have b:((rs.take i).map Prod.fst).length<=1000000:=by simp;omega
  simp only [zI,xE];rw [if_pos (by omega),hd,aYp _ _ _ i a];show gB (Faj x _) _=_;rw [h i x c];show gB (app' 8 _ _) _=_;rw [ap8 b,fQ hi (by omega)];show gB (set' _ _ _) _=_;rw [aXu _ x _ _ i a,f];show k _=k _;simp
 ·simp only [zI,xE];rw [if_neg (by omega)];have j:rs.take l.length=rs:=List.take_of_length_le (by omega);simp [j]
def rG (p:Int):List (fJ×Int)->List Bool->Bool×List Bool
 | [],a=>(true,a)
 |(mv,t)::r,a=>if mv.from_≠p\/t=1 then rG p r a else if t=2 then(false,a.set mv.to.toNat true)else rG p r (a.set mv.to.toNat true)
theorem aCu (p:Int): ∀(l:List (fJ×Int)) (a:List Bool),(rG p l a).2.length=a.length
 | [],_=>rfl
 |(mv,t)::r,a=>by
  rw [rG];split
  ·exact aCu p r a
  ·split
   ·simp
   ·rw [aCu p r];simp
theorem aXs {a:Type}{l:List a}{i:Int}{x:a}(h:0<=i/\i<l.length):set' l i x=some (l.set i.toNat x):=by
 unfold set';rw [if_pos h]
def f3 (p:Int)(_:Nat)(y:fJ×Int)(b:List Bool):List Bool ⊕ Option (Bool×List Bool):=
 if y.1.from_≠p then .inl b else if y.2=1 then .inl b else
 match at' b y.1.to with
 |none=> .inr none
 |some _=>match set' b y.1.to true with
  |none=> .inr none
  |some a=>if y.2=2 then .inr (some (false,a))else .inl a
theorem run3 (p:Int) (P:Nat): ∀(l:List (fJ×Int)) (i:Nat) (a:List Bool),a.length=P->(∀y∈l,0<=y.1.to/\y.1.to<P)->
  aEv (f3 p) (λa=>some (true,a)) l i a=some (rG p l a)
 | [],_,a,_,_=>rfl
 |(mv,t)::r,i,a,b,h=>by
  have c:=h (mv,t) List.mem_cons_self;have e: ∀y∈r,0<=y.1.to/\y.1.to<P:=λy f=>h y (List.mem_cons_of_mem _ f)
  obtain⟨x,j⟩:=wK (l:=a) (i:=mv.to) ⟨c.1,by rw [b];exact c.2⟩;have k:=aXs (l:=a) (i:=mv.to) (x:=true) ⟨c.1,by rw [b];exact c.2⟩;rw [aEv,rG];unfold f3;dsimp only
  by_cases d:mv.from_≠p
  ·rw [if_pos d,if_pos (Or.inl d)];exact run3 p P r (i+1) a b e
  ·rw [if_neg d]
   by_cases c2:t=1
   ·rw [if_pos c2,if_pos (Or.inr c2)];exact run3 p P r (i+1) a b e
   ·rw [if_neg c2,if_neg (by intro q;rcases q with q|q;exact d q;exact c2 q),j,k];dsimp only
    by_cases c3:t=2
    ·rw [if_pos c3,if_pos c3]
    ·rw [if_neg c3,if_neg c3];exact run3 p P r (i+1) _ (by simpa using b) e
theorem L3_ok (p:Int) (ts:List Int) (a:List fJ) (P:Nat) (n:a.length<=1000000) (f:ts.length=a.length) (c:List Bool) (j:c.length=P) (h: ∀y∈a,0<=y.to/\y.to<P):
  Fe5 ts a p (a.length:Int) (0,c)=some (rG p (a.zip ts) c):=by
 have l:(a.zip ts).length=a.length:=by simp [f]
 rw [<-run3 p P (a.zip ts) 0 c j (λy d=>h y.1 (List.of_mem_zip d).1)];refine vG (β:=Bool×List Bool) (λi (s:List Bool)=>((i:Int),s)) (a.zip ts) (f3 p) (λc=>some (true,c)) (by omega) (λk i s y d=>?_) (λk s=>?_) c
 ·have hi:i<a.length:=by rw [<-l];exact(gS.1 d).1
  obtain⟨mv,t⟩:=y;have hm:a[i]? =some mv/\ts[i]? =some t:=by
   rw [List.getElem?_zip_eq_some]at d;exact d
  simp only [zI,xE];rw [if_pos (by omega)];show dO _ _=_;unfold f3 dO;rw [yR hm.1];simp only [gB]
  by_cases e:mv.from_≠p
  ·rw [if_pos e,if_pos e];simp only [gQ];rw [fQ hi (by omega)]
  ·rw [if_neg e,if_neg e,yR hm.2];dsimp only
   by_cases c2:t=1
   ·rw [if_pos c2];simp only [c2,decide_true,gQ];rw [fQ hi (by omega)]
   ·rw [if_neg c2];simp only [c2,decide_false,gQ]
    cases hx:at' s mv.to with
    |none=>rfl
    |some _=>
     cases hs:set' s mv.to true with
     |none=>rfl
     |some _=>
      dsimp only
      by_cases c3:t=2
      ·rw [if_pos c3,if_pos c3]
      ·rw [if_neg c3,if_neg c3,fQ hi (by omega)]
 ·simp only [zI,xE];rw [if_neg (by omega)]
def aDs (zs:List (fJ×Int))(i:Nat)(is:Bool)(a:List Bool):List Bool:=
 if is then(rG (i:Int) zs a).2.set i ((rG (i:Int) zs a).2.getD i false||(rG (i:Int) zs a).1)else a
def wY (zs:List (fJ×Int)):List Bool->Nat->List Bool->List Bool
 | [],_,a=>a
 |is::r,i,a=>wY zs r (i+1) (aDs zs i is a)
theorem aGw (zs:List (fJ×Int))(i:Nat)(is:Bool)(a:List Bool):(aDs zs i is a).length=a.length:=by
 unfold aDs;split;rw [List.length_set,aCu];rfl
theorem aNj (zs:List (fJ×Int)): ∀(l:List Bool) (i:Nat) (a:List Bool),(wY zs l i a).length=a.length
 | [],_,_=>rfl
 |is::r,i,a=>by rw [wY,aNj zs r,aGw]
def f2 (ts:List Int)(a:List fJ)(i:Nat)(is:Bool)(c:List Bool):List Bool ⊕ Option (List Bool):=
 if is then
  match Fe5 ts a (i:Int) (a.length:Int) (0,c)with
  |none=> .inr none
  |some y=>match at' y.2 (i:Int)with
   |none=> .inr none
   |some b=>match set' y.2 (i:Int) (if b then true else y.1)with
    |none=> .inr none
    |some z=> .inl z
 else .inl c
theorem run2 (ts:List Int) (a:List fJ) (P:Nat) (j:a.length<=1000000) (k:ts.length=a.length) (h: ∀y∈a,0<=y.to/\y.to<P): ∀(l:List Bool) (i:Nat) (b:List Bool),b.length=P->i+l.length<=P->
  aEv (f2 ts a) some l i b=some (wY (a.zip ts) l i b)
 | [],_,_,_,_=>rfl
 |is::r,i,b,f,hi=>by
  have c:i+1+r.length<=P:=by rw [List.length_cons]at hi;omega
  rw [aEv,wY];unfold f2
  cases is
  ·simp only [Bool.false_eq_true,if_false];rw [show aDs (a.zip ts) i false b=b by unfold aDs;simp];exact run2 ts a P j k h r (i+1) b f c
  ·rw [L3_ok (i:Int) ts a P j k b f h];have n:(rG (i:Int) (a.zip ts) b).2.length=P:=by rw [aCu];exact f
   have d:i<(rG (i:Int) (a.zip ts) b).2.length:=by omega
   have o:at' (rG (i:Int) (a.zip ts) b).2 (i:Int)=some ((rG (i:Int) (a.zip ts) b).2.getD i false):=yR (by rw [gE d,List.getD_eq_getElem?_getD,gE d];rfl);simp only [if_true];rw [o];dsimp only;rw [aXs ⟨by omega,by omega⟩];dsimp only;have e:(rG (i:Int) (a.zip ts) b).2.set (i:Int).toNat (if (rG (i:Int) (a.zip ts) b).2.getD i false then true else(rG (i:Int) (a.zip ts) b).1)=aDs (a.zip ts) i true b:=by
    unfold aDs;rw [if_pos rfl,Int.toNat_natCast]
    cases(rG (i:Int) (a.zip ts) b).2.getD i false<;>rfl
   rw [e];exact run2 ts a P j k h r (i+1) _ (by rw [aGw];exact f) c
theorem L2_ok (w:gY) (ts:List Int) (a:List fJ) (P:Nat) (n:P<=1000000) (o:w.possible.length=P) (e:a.length<=1000000) (f:ts.length=a.length) (h: ∀y∈a,0<=y.to/\y.to<P) (c:List Bool) (j:c.length=P):
  Fjj w ts a (w.possible.length:Int) (0,c)=some (wY (a.zip ts) w.possible 0 c):=by
 rw [<-run2 ts a P e f h w.possible 0 c j (by omega)];refine vG (β:=List Bool) (λi (s:List Bool)=>((i:Int),s)) w.possible (f2 ts a) some (by omega) (λk i s is d=>?_) (λk s=>?_) c
 ·have hi:i<w.possible.length:=(gS.1 d).1;simp only [zI,xE];rw [if_pos (by omega),yR d];unfold f2;simp only [gB]
  cases is
  ·simp only [Bool.not_false,gQ,Bool.false_eq_true,if_false];rw [fQ hi (by omega)]
  ·simp only [Bool.not_true,gQ,if_true]
   cases hL:Fe5 ts a (i:Int) (a.length:Int) (0,s)with
   |none=>rfl
   |some y=>
    obtain⟨l,z⟩:=y;dsimp only
    cases ha:at' z (i:Int)with
    |none=>rfl
    |some b=>
     cases b
     ·dsimp only;simp only [Bool.false_eq_true,if_false]
      cases hs:set' z (i:Int) l with
      |none=>rfl
      |some q=>dsimp only;rw [fQ hi (by omega)]
     ·dsimp only;simp only [if_true]
      cases hs:set' z (i:Int) true with
      |none=>rfl
      |some q=>dsimp only;rw [fQ hi (by omega)]
 ·simp only [zI,xE];rw [if_neg (by omega)]
structure WfW (w:gY)(T P:Nat):Prop where
 ph:w.phases.length=P
 po:w.possible.length=P
 pb:P<=1000000
 tr:w.tracks=(T:Int)
 ml:w.moves.length<=1000000
 rl:w.rules.length<=1000000
 mv: ∀x∈w.moves,(0<=x.to/\x.to<P)/\wfN T 0 0 x.when/\dpN x.when<=1000000
 ru: ∀(i:Nat) k,w.rules[i]? =some k->wfN T P i k/\dpN k<=1000000
def mv0 (told:List fD):gU:=gU.mk told [] []
def tV (told:List fD)(w:gY):List Bool:=
 wY ((w.moves.map (mvS (mv0 told))).zip (w.moves.map λx=>(stp (mv0 told) x.when).1)) w.possible 0 (List.replicate w.phases.length false)
def nxt (told:List fD)(w:gY):List Int×gY:=
 ((rst told (tV told w) [] w.rules).map Prod.fst,gY.mk w.phases w.tracks (w.moves.map (mvS (mv0 told))) ((rst told (tV told w) [] w.rules).map Prod.snd) (tV told w))
theorem rst_ok {told:List fD}{ps:List Bool}(d:ps.length<=2000000): ∀(l:List Nd) (a:List Int),(∀t∈a,0<=t/\t<=2)->(∀(j:Nat) k,l[j]? =some k->wfN told.length ps.length (a.length+j) k/\dpN k<=1000000)->
  ∀(j:Nat) k,l[j]? =some k->aEa (gU.mk told ps (a++((rst told ps a l).take j).map Prod.fst)) (a.length+j) Faj k
 | [],_,_,_,j,k,h=>by simp at h
 |x::l,a,b,c,0,k,h=>by
  obtain rfl:x=k:=by simpa using h
  have q:=c 0 x rfl;have:=aSr (m:=gU.mk told ps a) (R:=a.length) d (Nat.le_refl _) b q.2 q.1;simpa using this
 |x::l,a,b,c,j+1,k,h=>by
  have q:=c 0 x rfl;have o:=aSr (m:=gU.mk told ps a) (R:=a.length) d (Nat.le_refl _) b q.2 q.1;have f:=rst_ok d l (a++[(stp (gU.mk told ps a) x).1]) (λt n=>by
    rcases mA.1 n with h|h
    ·exact b t h
    ·obtain rfl:=mS.1 h;exact o.2.1) (λi y p=>by
    have:=c (i+1) y (by simpa using p);have e:(a++[(stp (gU.mk told ps a) x).1]).length+i=a.length+(i+1):=by simp;omega
    rw [e];exact this) j k (by simpa using h)
  rw [rst];simp only [List.take_succ_cons,List.map_cons];have e:(a++[(stp (gU.mk told ps a) x).1]).length+j=a.length+(j+1):=by simp;omega
  rw [e,List.append_assoc,List.singleton_append]at f;exact f
theorem moved_ok {told:List fD}{w:gY}{T P:Nat}(a:WfW w T P)(d:told.length=T):
  Fdh w (mv0 told)=some (gY.mk w.phases w.tracks (w.moves.map (mvS (mv0 told))) w.rules (tV told w))/\ ∀x∈w.moves,aEa (mv0 told) 0 Faj x.when:=by
 have c: ∀x∈w.moves,aEa (mv0 told) 0 Faj x.when:=λx b=>by
  have q:=a.mv x b;refine aSr (m:=mv0 told) (R:=0) (by simp [mv0]) (Nat.zero_le _) (by simp [mv0]) q.2.2 ?_;subst d;exact q.2.1
 refine⟨?_,c⟩;unfold Fdh;simp only [zI];rw [aWf w.moves a.ml λx b=>(c x b).1];have hm:make' 1 (w.phases.length:Int) false=some (List.replicate w.phases.length false):=by
  have:=a.pb;have:=a.ph;unfold make';rw [if_pos ⟨by omega,by omega,by omega⟩,Int.toNat_natCast]
 simp only [gB];rw [hm];dsimp only;rw [L2_ok w _ (w.moves.map (mvS (mv0 told))) P a.pb a.po (by rw [List.length_map];exact a.ml) (by simp) (λ_ e=>by
  obtain⟨x,b,rfl⟩:=List.mem_map.1 e;exact(a.mv x b).1) _ (by rw [List.length_replicate];exact a.ph)]
 rfl
theorem aSq {told:List fD}{w:gY}{T P:Nat} (b:WfW w T P) (f:told.length=T):
  Fcg w told=some (nxt told w)/\WfW (nxt told w).2 T P/\(∀t∈(nxt told w).1,0<=t/\t<=2)/\(nxt told w).1.length=w.rules.length:=by
 obtain⟨m1,m2⟩:=moved_ok b f;have c:(tV told w).length=P:=by unfold tV;rw [aNj,List.length_replicate];exact b.ph
 have s:=rst_ok (told:=told) (ps:=tV told w) (by rw [c];have:=b.pb;omega) w.rules [] (by simp) (λj k h=>by
  have:=b.ru j k h;rw [f,c];simpa using this)
 have e: ∀(j:Nat) k,w.rules[j]? =some k->(rst told (tV told w) [] w.rules)[j]? =some (stp (gU.mk told (tV told w) (((rst told (tV told w) [] w.rules).take j).map Prod.fst)) k):=λj k h=>by
  have:=aJa (told:=told) (ps:=tV told w) w.rules [] j k h;simpa using this
 have d: ∀(j:Nat) k,w.rules[j]? =some k->aEa (gU.mk told (tV told w) (((rst told (tV told w) [] w.rules).take j).map Prod.fst)) j Faj k:=λj k h=>by
  have:=s j k h;simpa using this
 refine⟨?_,⟨b.ph,c,b.pb,b.tr,by show(w.moves.map _).length<=_;rw [List.length_map];exact b.ml,by show((rst told (tV told w) [] w.rules).map Prod.snd).length<=_;rw [List.length_map,aAw];exact b.rl,λy l=>?_,λi k u=>?_⟩,λt h=>?_,by show((rst told (tV told w) [] w.rules).map Prod.fst).length=_;rw [List.length_map,aAw]⟩
 ·unfold Fcg;show gB (Fdh w (mv0 told)) _=_;rw [m1];simp only [gB,zI];rw [aYz (x40:=gY.mk w.phases w.tracks (w.moves.map (mvS (mv0 told))) w.rules (tV told w)) w.rules b.rl λi k h=>(d i k h).1];rfl
 ·obtain⟨x,p,rfl⟩:=List.mem_map.1 l;have q:=b.mv x p;have o:=m2 x p;refine⟨q.1,?_,by rw [show(mvS (mv0 told) x).when=(stp (mv0 told) x.when).2 from rfl,o.2.2.2];exact q.2.2⟩;have:=o.2.2.1;subst f;exact this
 ·have a:((rst told (tV told w) [] w.rules).map Prod.snd)[i]? =some k:=u;rw [List.getElem?_map]at a
  cases hr:w.rules[i]? with
  |none=>
   have:(rst told (tV told w) [] w.rules)[i]? =none:=by
    rw [List.getElem?_eq_none_iff]at hr⊢;rw [aAw];exact hr
   rw [this]at a;cases a
  |some y=>
   rw [e i y hr]at a;simp only [Option.map_some,Option.some.injEq]at a;subst a;have o:=d i y hr;refine⟨?_,by rw [o.2.2.2];exact(b.ru i y hr).2⟩;have:=o.2.2.1;rw [<-f,<-c];exact this
 ·obtain⟨y,l,rfl⟩:=List.mem_map.1 h;obtain⟨j,n⟩:=List.getElem?_of_mem l;have r:j<w.rules.length:=by
   have:=(gS.1 n).1;rwa [aAw]at this
  have o:=d j _ (gE r);rw [e j _ (gE r)]at n;obtain rfl:=oI n;exact o.2.1
end Go.Lf
