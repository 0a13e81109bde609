/- Walks: what each function computes, for every argument; no condition but those that stand in the statements. -/
import Derived.Test.YthllgjnlmjpinaaGreatDoorUP
import Derived.Test.YthllgjnlmjpinaaGreatDoorPLb
namespace Go.Lf
def opp (t:Int):Int:=if t=2 then 1 else if t=1 then 2 else 0
theorem aPw (t:Int):Fbq t=some (opp t):=by
 unfold Fbq opp;simp only [zM,wB];split;rfl;split<;>rfl
def aPk (s w out t:Int):Int:=if t=s then s else if t=0 then (if out=w then 0 else out) else out
def cnt (t:Int)(l:List Int):Int:=(l.filter (fun x=>decide (x=t))).length
def sQ (l:List Int):Arr 3 Int:=⟨[cnt 0 l,cnt 1 l,cnt 2 l],rfl⟩
def aQr (n fr:Int)(l:List Int):Int:=if n≤cnt 2 l then 2 else if fr - n<cnt 1 l then 1 else 0
def aNw (fr:Int)(l:List Int):List Int:=if (l.length:Int)=fr then l.tail else l
def vF (a b last:Int):Int:=if b=2∨a=2∧last=2 then 2 else if b=1∧(a=1∨last=1) then 1 else 0
def aDn (t last:Int):Int:=if t=2∧last=1 then 2 else if t=1∨last=2 then 1 else 0
def numT (m:gQ)(tr op n:Int):Int:=(Fbf (kV.mk tr op n) m).getD 0
def pairT (m:gQ)(a b da db op:Int):Int:=(Fbj (nG.mk a b da db op) m).getD 0
def aFf (m:gQ)(tr n fr:Int)(last:List dB):Int×List dB:=((Fbk (dU.mk tr n fr last) m).map fun x=>(x.1,x.2.last)).getD (0,[])
def aRz (m:gQ)(p:Int):Int:=(Fbh (jM.mk p) m).getD 0
def ruleT (m:gQ)(r:Int):Int:=(at' m.rules r).getD 0
mutual
def stp (m:gQ):Nd→Int×Nd
  | .constant t=>(t,.constant t)
  | .number tr op n=>(numT m tr op n,.number tr op n)
  | .pair a b da db op=>(pairT m a b da db op,.pair a b da db op)
  | .steady tr n fr last=>((aFf m tr n fr last).1,.steady tr n fr (aFf m tr n fr last).2)
  | .phase p=>(aRz m p,.phase p)
  | .rule r=>(ruleT m r,.rule r)
  | .not k=>(opp (stp m k).1,.not (stp m k).2)
  | .group ks any=>(((stps m ks).map Prod.fst).foldl (aPk (if any then 2 else 1) (if any then 1 else 2)) (if any then 1 else 2),.group ((stps m ks).map Prod.snd) any)
  | .count k n fr last _=>
    (aQr n fr (last++ [(stp m k).1]),.count (stp m k).2 n fr (aNw fr (last++ [(stp m k).1])) (sQ (aNw fr (last++ [(stp m k).1]))))
  | .since a b last _=>(vF (stp m a).1 (stp m b).1 last,.since (stp m a).2 (stp m b).2 (vF (stp m a).1 (stp m b).1 last) true)
  | .rises k last _=>(aDn (stp m k).1 last,.rises (stp m k).2 (stp m k).1 true)
def stps (m:gQ):List Nd→List (Int×Nd)
  | []=>[]
  | k :: ks=>stp m k :: stps m ks
end
theorem aIa (m:gQ): ∀l,stps m l=l.map (stp m)
  | []=>by rw [stps]; rfl
  | k :: ks=>by rw [stps,aIa m ks]; rfl
mutual
def wfN (T P R:Nat):Nd→Prop
  | .constant t=>0≤t∧t≤2
  | .number tr _ _=>0≤tr∧tr<T
  | .pair a b _ _ _=>(0≤a∧a<T)∧0≤b∧b<T
  | .steady tr _ fr last=>(0≤tr∧tr<T)∧(1≤fr∧fr≤1000000)∧(last.length:Int)<fr
  | .phase p=>0≤p∧p<P
  | .rule r=>0≤r∧r<R
  | .not k=>wfN T P R k
  | .group ks _=>wfL T P R ks∧ks.length≤1000000
  | .count k n fr last tot=>wfN T P R k∧(1≤fr∧fr≤1000000)∧(0≤n∧n≤1000000)∧(last.length:Int)<fr∧(∀t ∈ last,0≤t∧t≤2)∧tot=sQ last
  | .since a b last _=>wfN T P R a∧wfN T P R b∧0≤last∧last≤2
  | .rises k last _=>wfN T P R k∧0≤last∧last≤2
def wfL (T P R:Nat):List Nd→Prop
  | []=>True
  | k :: ks=>wfN T P R k∧wfL T P R ks
end
mutual
def dpN:Nd→Nat
  | .not k=>dpN k+1
  | .group ks _=>dpL ks+1
  | .count k _ _ _ _=>dpN k+1
  | .since a b _ _=>max (dpN a) (dpN b)+1
  | .rises k _ _=>dpN k+1
  | .constant _=>0
  | .number _ _ _=>0
  | .pair _ _ _ _ _=>0
  | .steady _ _ _ _=>0
  | .phase _=>0
  | .rule _=>0
def dpL:List Nd→Nat
  | []=>0
  | k :: ks=>max (dpN k) (dpL ks)
end
theorem aBr {T P R:Nat}: ∀{l:List Nd},wfL T P R l↔ ∀x ∈ l,wfN T P R x
  | []=>by simp [wfL]
  | k :: ks=>by simp [wfL,aBr]
theorem aLo: ∀{l:List Nd} {x:Nd},x ∈ l→dpN x≤dpL l
  | k :: ks,x,h=>by
    rw [dpL]
    rcases List.mem_cons.1 h with rfl | h
    · exact Nat.le_max_left _ _
    · exact Nat.le_trans (aLo h) (Nat.le_max_right _ _)
section
variable {rf:Nd→gQ→Option (Int×Nd)} {m:gQ}
theorem not_ok {k:Nd}(h:rf k m=some (stp m k)):Fbs rf (jG.mk k) m=some (opp (stp m k).1,jG.mk (stp m k).2):=by
 unfold Fbs;show gG (rf k m) _=_;rw [h];show gG (Fbq _) _=_;rw [aPw]; rfl
theorem aGk {ks : List Nd} (s w : Int) (hl : ks.length ≤ 1000000) (h : ∀ k ∈ ks, rf k m = some (stp m k)) :
    Fb0 rf m s w (ks.length : Int) (w, 0, ks) = some (((ks.map (stp m)).map Prod.fst).foldl (aPk s w) w, (ks.map (stp m)).map Prod.snd) := by
  unfold Fb0
  refine bI (β := Int × List Nd) (fun i => ((((ks.take i).map (stp m)).map Prod.fst).foldl (aPk s w) w, (i : Int), ((ks.take i).map (stp m)).map Prod.snd ++ ks.drop i)) ks (some (((ks.map (stp m)).map Prod.fst).foldl (aPk s w) w, (ks.map (stp m)).map Prod.snd)) (by omega) (fun k i x hx hi => ?_) (fun k => ?_)
  · have hd : ks.drop i = x :: ks.drop (i + 1) := by
      rw [List.drop_eq_getElem_cons hi]; congr 1
      exact (List.getElem?_eq_some_iff.1 hx).2
    have ht : ks.take (i + 1) = ks.take i ++ [x] := by
      rw [List.take_add_one, hx]; rfl
    have hm : x ∈ ks := List.mem_of_getElem? hx
    have hlen : (((ks.take i).map (stp m)).map Prod.snd).length = i := by simp; omega
    simp only [zM, wB]
    rw [if_pos (by omega), hd, aLk _ _ _ i hlen]
    show gG (gG (rf x m) _) _ = _
    rw [h x hm, eH hi (by omega), ht]
    have hs := aLs (((ks.take i).map (stp m)).map Prod.snd) x (stp m x).2 (ks.drop (i + 1)) i hlen
    have e1 : ∀ o : Int, (gG (set' ((((ks.take i).map (stp m)).map Prod.snd) ++ x :: ks.drop (i + 1)) (i : Int) (stp m x).2) fun y => some (o, y)) = some (o, (((ks.take i).map (stp m)).map Prod.snd) ++ (stp m x).2 :: ks.drop (i + 1)) := by
      intro o; rw [hs]; rfl
    simp only [List.map_append, List.foldl_append, List.map_cons, List.map_nil, List.foldl_cons, List.foldl_nil, List.append_assoc, List.singleton_append]
    show gG (if (stp m x).1 = s then _ else if (stp m x).1 = 0 then (if _ then _ else _) else _) _ = _
    simp only [e1]
    unfold aPk
    by_cases c1 : (stp m x).1 = s
    · rw [if_pos c1, if_pos c1]; rfl
    · rw [if_neg c1, if_neg c1]
      by_cases c2 : (stp m x).1 = 0
      · rw [if_pos c2, if_pos c2]
        split <;> rfl
      · rw [if_neg c2, if_neg c2]; rfl
  · simp only [zM, wB]
    rw [if_neg (by omega)]
    simp
theorem group_ok {ks : List Nd} {any : Bool} (hl : ks.length ≤ 1000000) (h : ∀ k ∈ ks, rf k m = some (stp m k)) :
    Fca rf (aP.mk ks any) m = some ((stp m (.group ks any)).1, aP.mk ((ks.map (stp m)).map Prod.snd) any) := by
 rw [stp, aIa];unfold Fca;cases any;have q := aGk (m := m) 1 2 hl h;simp only [gU, gG, zM];show gG (Fb0 rf m 1 2 (ks.length : Int) (2, 0, ks)) _ = _;rw [q]; rfl;have q := aGk (m := m) 2 1 hl h;simp only [gU, gG, zM];show gG (Fb0 rf m 2 1 (ks.length : Int) (1, 0, ks)) _ = _;rw [q]; rfl
end
end Go.Lf
namespace Go.Lf
theorem cnt_le (t:Int)(l:List Int):0≤cnt t l∧cnt t l≤l.length:=by
 unfold cnt;have:=List.length_filter_le (fun x=>decide (x=t)) l;omega
theorem cnt_app (t u:Int)(l:List Int):cnt t (l++ [u])=cnt t l+if u=t then 1 else 0:=by
 unfold cnt;rw [List.filter_append,List.length_append];by_cases h:u=t<;>simp [h]
theorem cnt_cons (t u:Int)(l:List Int):cnt t (u :: l)=(if u=t then 1 else 0)+cnt t l:=by
 unfold cnt;rw [List.filter_cons];by_cases h:u=t;simp [h]; omega;simp [h]
theorem tri {t:Int}(h:0≤t∧t≤2):t=0∨t=1∨t=2:=by omega
theorem aFg {t:Int}(h:0≤t∧t≤2)(l:List Int):at' (sQ l).l t=some (cnt t l):=by
  rcases tri h with rfl | rfl | rfl<;>rfl
theorem aKm {n:Nat}{α:Type}{X Y:Arr n α}(h:X.l=Y.l):X=Y:=by
 cases X; cases Y; cases h; rfl
theorem tots_app {t:Int}(h:0≤t∧t≤2)(l:List Int):Arr.set (sQ l) t (cnt t l+1)=sQ (l++ [t]):=by
  apply aKm
  rcases tri h with rfl | rfl | rfl<;>simp [Arr.set,sQ,cnt_app]
theorem tots_tail {t:Int}(h:0≤t∧t≤2)(l:List Int):Arr.set (sQ (t :: l)) t (cnt t (t :: l) - 1)=sQ l:=by
  apply aKm
  rcases tri h with rfl | rfl | rfl<;>simp [Arr.set,sQ,cnt_cons]<;>omega
theorem ap8 {l:List Int}{x:Int}(h:l.length≤1000000):app' 8 l [x]=some (l++ [x]):=by
 unfold app';rw [if_pos ⟨by rw [Go.OB.maxLen_eq]; simp; omega,by simp; omega⟩]
section
variable {rf:Nd→gQ→Option (Int×Nd)} {m:gQ}
theorem count_ok {k : Nd} {n fr : Int} {last : List Int} (hk : rf k m = some (stp m k)) (ht : 0 ≤ (stp m k).1 ∧ (stp m k).1 ≤ 2) (hf : 1 ≤ fr ∧ fr ≤ 1000000) (hn : 0 ≤ n ∧ n ≤ 1000000) (hl : (last.length : Int) < fr) (hr : ∀ t ∈ last, 0 ≤ t ∧ t ≤ 2) :
    Fb7 rf (dJ.mk k n fr last (sQ last)) m = some (aQr n fr (last ++ [(stp m k).1]), dJ.mk (stp m k).2 n fr (aNw fr (last ++ [(stp m k).1])) (sQ (aNw fr (last ++ [(stp m k).1])))) := by
  unfold Fb7
  show gG (rf k m) _ = _
  rw [hk]
  generalize he : stp m k = y at ht ⊢
  obtain ⟨t, k2⟩ := y
  have c1 := cnt_le t last
  have w1 : IntKind.i64.wrap (cnt t last + 1) = cnt t last + 1 := Go.OB.wrap_i64 (by omega) (by omega)
  simp only [gG, zM, wB, aFg ht, w1, tots_app ht, ap8 (l := last) (x := t) (by omega)]
  have c2 := cnt_le 2 (last ++ [t])
  have c3 := cnt_le 1 (last ++ [t])
  have w2 : IntKind.i64.wrap (fr - n) = fr - n := Go.OB.wrap_i64 (by omega) (by omega)
  have fin : ∀ (g : List Int × Arr 3 Int), (match at' (sQ (last ++ [t])).l 2 with
      | some x194 => if n ≤ x194 then some ((2 : Int), dJ.mk k2 n fr g.1 g.2) else
        match at' (sQ (last ++ [t])).l 1 with
        | some x206 => if IntKind.i64.wrap (fr - n) < x206 then some (1, dJ.mk k2 n fr g.1 g.2) else some (0, dJ.mk k2 n fr g.1 g.2)
        | none => none
      | none => none) = some (aQr n fr (last ++ [t]), dJ.mk k2 n fr g.1 g.2) := by
    intro g
    rw [aFg (by omega), aFg (by omega), w2]
    unfold aQr
    dsimp only
    split
    · rfl
    · split <;> rfl
  by_cases c : ((last ++ [t]).length : Int) = fr
  · rw [if_pos c]
    unfold aNw
    rw [if_pos c]
    obtain ⟨h0, r, hr0⟩ : ∃ h0 r, last ++ [t] = h0 :: r := by
      cases last with
      | nil => exact ⟨t, [], rfl⟩
      | cons a b => exact ⟨a, b ++ [t], rfl⟩
    have hh : 0 ≤ h0 ∧ h0 ≤ 2 := by
      have : h0 ∈ last ++ [t] := by rw [hr0]; simp
      rcases List.mem_append.1 this with q | q
      · exact hr _ q
      · obtain rfl := List.mem_singleton.1 q; exact ht
    have c4 := cnt_le h0 (last ++ [t])
    have hlen : (last ++ [t]).length ≤ 1000000 := by omega
    have w3 : IntKind.i64.wrap (cnt h0 (last ++ [t]) - 1) = cnt h0 (last ++ [t]) - 1 := Go.OB.wrap_i64 (by omega) (by omega)
    have a0 : at' (last ++ [t]) 0 = some h0 := by rw [hr0]; rfl
    have s0 : sub' (last ++ [t]) 1 ((last ++ [t]).length : Int) = some r := by
      unfold sub'
      rw [if_pos ⟨by omega, by rw [hr0]; simp; omega, by omega⟩, hr0]
      simp
    rw [a0]
    dsimp only
    rw [aFg hh]
    dsimp only
    rw [w3, s0]
    dsimp only
    rw [hr0] at fin ⊢
    rw [tots_tail hh]
    exact fin (r, sQ r)
  · rw [if_neg c]
    unfold aNw
    rw [if_neg c]
    exact fin (last ++ [t], sQ (last ++ [t]))
theorem since_ok {a b:Nd}{last:Int}{bg:Bool}(ha:rf a m=some (stp m a))(hb:rf b m=some (stp m b)):
    Fbx rf (aN.mk a b last bg) m=some (vF (stp m a).1 (stp m b).1 last,aN.mk (stp m a).2 (stp m b).2 (vF (stp m a).1 (stp m b).1 last) true):=by
 unfold Fbx;show gG (rf a m) _=_;rw [ha];show gG (rf b m) _=_;rw [hb];unfold vF;simp only [gG,zM,wB];by_cases c1:(stp m b).1=2;simp [c1,gU];by_cases c2:(stp m a).1=2<;>by_cases c3:last=2<;>by_cases c4:(stp m b).1=1<;>by_cases c5:(stp m a).1=1<;>by_cases c6:last=1<;>simp [c1,c2,c3,c4,c5,c6,gU]<;>omega
theorem rises_ok {k:Nd}{last:Int}{bg:Bool}(hk:rf k m=some (stp m k)):
    Fbv rf (aO.mk k last bg) m=some (aDn (stp m k).1 last,aO.mk (stp m k).2 (stp m k).1 true):=by
 unfold Fbv;show gG (rf k m) _=_;rw [hk];unfold aDn;simp only [gG,zM,wB];by_cases c1:(stp m k).1=2<;>by_cases c2:(stp m k).1=1<;>by_cases c3:last=1<;>by_cases c4:last=2<;>simp [c1,c2,c3,c4,gU]<;>omega
end
end Go.Lf
namespace Go.Lf
theorem aFq (n : Int) : ∃ r, Fav n = some r ∧ -1 ≤ r ∧ r ≤ 1 := by
 unfold Fav;simp only [zM, wB];split;exact ⟨_, rfl, by omega, by omega⟩;split;exact ⟨_, rfl, by omega, by omega⟩;exact ⟨_, rfl, by omega, by omega⟩
theorem aEq (o c:Int): ∃b,Fbp o c=some b:=by
  unfold Fbp
  simp only [zM,wB]
  repeat' split
  all_goals exact ⟨_,rfl⟩
theorem aGa (b:Bool): ∃t,Fdx b=some t∧0≤t∧t≤2:=by
 cases b;exact ⟨1,rfl,by omega,by omega⟩;exact ⟨2,rfl,by omega,by omega⟩
theorem shr32 (a:Int):rY .u64 a 32=some (a / 2 ^ 32):=by
 unfold rY; rfl
theorem aPn (a b:Int): ∃p,Fao a b=some p:=by
 unfold Fao;simp only [zM,gG,shr32];exact ⟨_,rfl⟩
theorem cf_ex (a b c d : Int) : ∃ r, Fcm a b c d = some r := by
 unfold Fcm;obtain ⟨s, h1, -⟩ := aFq a;obtain ⟨u, h2, -⟩ := aFq c;simp only [h1, h2, gG, zM, wB];split;obtain ⟨v, h3, -⟩ := aFq (IntKind.i64.wrap (s - u));rw [h3]; exact ⟨_, rfl⟩;obtain ⟨⟨p1, p2⟩, h3⟩ := aPn (IntKind.u64.wrap (IntKind.i64.wrap (a * s))) (IntKind.u64.wrap d);obtain ⟨⟨q1, q2⟩, h4⟩ := aPn (IntKind.u64.wrap (IntKind.i64.wrap (c * s))) (IntKind.u64.wrap b);simp only [h3, h4];by_cases c1 : p1 < q1 <;> by_cases c2 : p1 = q1 <;> by_cases c3 : p2 < q2 <;> by_cases c4 : p2 = q2 <;> simp [c1, c2, c3, c4, gU]
section
variable {m:gQ}
theorem aCh {α:Type}{l:List α}{i:Int}(h:0≤i∧i<l.length): ∃x,at' l i=some x:=by
 unfold at';rw [if_pos h.1];exact ⟨l[i.toNat]'(by omega),List.getElem?_eq_getElem (by omega)⟩
theorem number_ex {tr op n : Int} (h : 0 ≤ tr ∧ tr < m.told.length) : ∃ r, Fbf (kV.mk tr op n) m = some r ∧ 0 ≤ r ∧ r ≤ 2 := by
 unfold Fbf;obtain ⟨x, hx⟩ := aCh h;show ∃ r, gG (at' m.told tr) _ = _ ∧ _;rw [hx];simp only [gG, zM];cases x.Known;exact ⟨0, rfl, by omega, by omega⟩;obtain ⟨s, h1, -⟩ := aFq (IntKind.i64.wrap (x.N - n));obtain ⟨b, h2⟩ := aEq op s;obtain ⟨t, h3, h4⟩ := aGa b;refine ⟨t, ?_, h4⟩;simp [gU, h1, h2, h3]
theorem pair_ex {a b da db op : Int} (h : (0 ≤ a ∧ a < m.told.length) ∧ 0 ≤ b ∧ b < m.told.length) : ∃ r, Fbj (nG.mk a b da db op) m = some r ∧ 0 ≤ r ∧ r ≤ 2 := by
 unfold Fbj;obtain ⟨x, hx⟩ := aCh h.1;obtain ⟨y, hy⟩ := aCh h.2;show ∃ r, gG (at' m.told a) _ = _ ∧ _;rw [hx];show ∃ r, gG (at' m.told b) _ = _ ∧ _;rw [hy];simp only [gG, zM];obtain ⟨s, h1⟩ := cf_ex x.N da y.N db;obtain ⟨c, h2⟩ := aEq op s;obtain ⟨t, h3, h4⟩ := aGa c;cases x.Known;exact ⟨0, rfl, by omega, by omega⟩;cases y.Known;exact ⟨0, rfl, by omega, by omega⟩;refine ⟨t, ?_, h4⟩;simp [gU, h1, h2, h3]
theorem aOu (l : List dB) (hl : l.length ≤ 2000000) : ∃ r, Fce l (l.length : Int) (0, 0, 0, 0) = some r := by
  suffices q : ∃ r, Fce l (l.length : Int) (0, 0, 0, 0) = some r ∧ True by
    obtain ⟨r, h, -⟩ := q
    exact ⟨r, h⟩
  unfold Fce
  refine dS (β := Int × Int × Int) (fun i (s : Int × Int × Int) => (s.1, s.2.1, s.2.2, (i : Int))) l (fun _ _ => True) (fun _ => True) (by omega) (fun k i s x hx hi _ => ?_) (fun k s _ => ?_) (0, 0, 0) trivial
  · obtain ⟨s1, s2, s3⟩ := s
    simp only [zM, wB]
    rw [if_pos (by omega), xQ hx, eH hi (by omega)]
    simp only [gG]
    cases x.Known
    · exact ⟨(s1, s2, s3), trivial, rfl⟩
    · refine ⟨(IntKind.i64.wrap (s1 + 1), min (if s1 = 0 then x.N else s2) x.N, max (if s1 = 0 then x.N else s3) x.N), trivial, ?_⟩
      by_cases c : s1 = 0
      · subst c; rfl
      · simp only [c, gU, if_false, Bool.not_true]
  · obtain ⟨s1, s2, s3⟩ := s
    simp only [zM, wB]
    rw [if_neg (by omega)]
    exact ⟨_, rfl, trivial⟩
theorem ap16 {α:Type}{l:List α}{x:α}(h:l.length≤1000000):app' 16 l [x]=some (l++ [x]):=by
 unfold app';rw [if_pos ⟨by rw [Go.OB.maxLen_eq]; simp; omega,by simp; omega⟩]
theorem steady_ex {tr n fr : Int} {last : List dB} (h : 0 ≤ tr ∧ tr < m.told.length) (hf : 1 ≤ fr ∧ fr ≤ 1000000) (hl : (last.length : Int) < fr) :
    ∃ t l', Fbk (dU.mk tr n fr last) m = some (t, dU.mk tr n fr l') ∧ (0 ≤ t ∧ t ≤ 2) ∧ (l'.length : Int) < fr := by
  unfold Fbk
  obtain ⟨x, hx⟩ := aCh h
  show ∃ t l', gG (at' m.told tr) _ = _ ∧ _
  rw [hx]
  obtain ⟨⟨g1, g2, g3⟩, hL⟩ := aOu (last ++ [x]) (by simp; omega)
  have hlen : ((last ++ [x]).length : Int) = last.length + 1 := by simp
  have w1 : IntKind.i64.wrap (((last ++ [x]).length : Int) - fr) = (last.length : Int) + 1 - fr := by rw [hlen]; exact Go.OB.wrap_i64 (by omega) (by omega)
  have w2 : IntKind.i64.wrap ((last.length : Int) + 1 - fr + 1) = (last.length : Int) + 1 - fr + 1 := Go.OB.wrap_i64 (by omega) (by omega)
  have s0 : sub' (last ++ [x]) (max 0 ((last.length : Int) + 1 - fr + 1)) ((last ++ [x]).length : Int) = some (((last ++ [x]).drop (max 0 ((last.length : Int) + 1 - fr + 1)).toNat).take (((last ++ [x]).length : Int) - max 0 ((last.length : Int) + 1 - fr + 1)).toNat) := by
    unfold sub'
    rw [if_pos ⟨by omega, by omega, by omega⟩]
  have hd : ((((last ++ [x]).drop (max 0 ((last.length : Int) + 1 - fr + 1)).toNat).take (((last ++ [x]).length : Int) - max 0 ((last.length : Int) + 1 - fr + 1)).toNat).length : Int) < fr := by
    rw [List.length_take, List.length_drop]; omega
  simp only [gG, zM, ap16 (l := last) (x := x) (by omega), hL, w1, w2, s0, wB]
  split
  · exact ⟨1, _, rfl, by omega, hd⟩
  · split
    · exact ⟨2, _, rfl, by omega, hd⟩
    · exact ⟨0, _, rfl, by omega, hd⟩
theorem aQo (l : List Bool) (t : List dB) (rs : List Int) (hl : l.length ≤ 2000000) : ∃ r, Fdm (gQ.mk t l rs) (l.length : Int) (0, 0) = some r := by
  suffices q : ∃ r, Fdm (gQ.mk t l rs) (l.length : Int) (0, 0) = some r ∧ True by
    obtain ⟨r, h, -⟩ := q
    exact ⟨r, h⟩
  unfold Fdm
  refine dS (β := Int) (fun i (s : Int) => (s, (i : Int))) l (fun _ _ => True) (fun _ => True) (by omega) (fun k i s x hx hi _ => ?_) (fun k s _ => ?_) 0 trivial
  · simp only [zM, wB]
    rw [if_pos (by omega), xQ hx, eH hi (by omega)]
    cases x
    · exact ⟨_, trivial, rfl⟩
    · exact ⟨_, trivial, rfl⟩
  · simp only [zM, wB]
    rw [if_neg (by omega)]
    exact ⟨_, rfl, trivial⟩
theorem phase_ex {p : Int} (h : 0 ≤ p ∧ p < m.possible.length) (hl : m.possible.length ≤ 2000000) : ∃ r, Fbh (jM.mk p) m = some r ∧ 0 ≤ r ∧ r ≤ 2 := by
 obtain ⟨tl, ps, rs⟩ := m;unfold Fbh;obtain ⟨g, hg⟩ := aQo ps tl rs hl;obtain ⟨x, hx⟩ := aCh h;simp only [zM, gG];rw [hg];dsimp only at hx ⊢;rw [hx];dsimp only;cases x;exact ⟨1, rfl, by omega, by omega⟩;simp only [Bool.not_true, gU];split;exact ⟨2, rfl, by omega, by omega⟩;exact ⟨0, rfl, by omega, by omega⟩
end
end Go.Lf
namespace Go.Lf
theorem aUh {s w : Int} (hs : 0 ≤ s ∧ s ≤ 2) : ∀ (l : List Int) (o : Int), 0 ≤ o ∧ o ≤ 2 → 0 ≤ l.foldl (aPk s w) o ∧ l.foldl (aPk s w) o ≤ 2
  | [], o, h => h
  | t :: l, o, h => by
    rw [List.foldl_cons]
    refine aUh hs l _ ?_
    unfold aPk
    split
    · exact hs
    · split
      · split
        · omega
        · exact h
      · exact h
theorem cntT_rng (n fr:Int)(l:List Int):0≤aQr n fr l∧aQr n fr l≤2:=by
 unfold aQr;split;omega;split<;>omega
theorem aHm (a b l:Int):0≤vF a b l∧vF a b l≤2:=by
 unfold vF;split;omega;split<;>omega
theorem aQt (a l:Int):0≤aDn a l∧aDn a l≤2:=by
 unfold aDn;split;omega;split<;>omega
theorem opp_rng (t:Int):0≤opp t∧opp t≤2:=by
 unfold opp;split;omega;split<;>omega
def aAg (m:gQ)(R:Nat)(rf:Nd→gQ→Option (Int×Nd))(nd:Nd):Prop:=
  rf nd m=some (stp m nd)∧(0≤(stp m nd).1∧(stp m nd).1≤2)∧wfN m.told.length m.possible.length R (stp m nd).2∧dpN (stp m nd).2=dpN nd
theorem aUi {m:gQ}: ∀(ks:List Nd),(∀k ∈ ks,dpN (stp m k).2=dpN k)→dpL ((ks.map (stp m)).map Prod.snd)=dpL ks
  | [],_=>rfl
  | k :: ks,h=>by
    rw [List.map_cons,List.map_cons,dpL,dpL,h k List.mem_cons_self,aUi ks fun x hx=>h x (List.mem_cons_of_mem _ hx)]
theorem node_B {m : gQ} {R n : Nat} {rf : Nd → gQ → Option (Int × Nd)} (hP : m.possible.length ≤ 2000000) (hR : R ≤ m.rules.length) (hr : ∀ t ∈ m.rules, 0 ≤ t ∧ t ≤ 2)
    (hk : ∀ k, dpN k < n → wfN m.told.length m.possible.length R k → aAg m R rf k) (nd : Nd) (hd : dpN nd < n + 1) (hw : wfN m.told.length m.possible.length R nd) : aAg m R (Feq rf) nd := by
  unfold aAg
  cases nd with
  | constant t => exact ⟨by rw [stp]; rfl, by rw [stp]; exact hw, by rw [stp]; exact hw, by rw [stp]⟩
  | number tr op k =>
    obtain ⟨r, h1, h2⟩ := number_ex (m := m) (op := op) (n := k) hw
    have e : numT m tr op k = r := by unfold numT; rw [h1]; rfl
    rw [stp, e]
    refine ⟨?_, h2, hw, rfl⟩
    show gG (Fbf (kV.mk tr op k) m) _ = _
    rw [h1]; rfl
  | pair a b da db op =>
    obtain ⟨r, h1, h2⟩ := pair_ex (m := m) (da := da) (db := db) (op := op) hw
    have e : pairT m a b da db op = r := by unfold pairT; rw [h1]; rfl
    rw [stp, e]
    refine ⟨?_, h2, hw, rfl⟩
    show gG (Fbj (nG.mk a b da db op) m) _ = _
    rw [h1]; rfl
  | steady tr k fr last =>
    obtain ⟨hw1, hw2, hw3⟩ := hw
    obtain ⟨t, l', h1, h2, h3⟩ := steady_ex (m := m) (n := k) hw1 hw2 hw3
    have e : aFf m tr k fr last = (t, l') := by unfold aFf; rw [h1]; rfl
    rw [stp, e]
    refine ⟨?_, h2, ⟨hw1, hw2, h3⟩, rfl⟩
    show gG (Fbk (dU.mk tr k fr last) m) _ = _
    rw [h1]; rfl
  | phase p =>
    obtain ⟨r, h1, h2⟩ := phase_ex (m := m) hw hP
    have e : aRz m p = r := by unfold aRz; rw [h1]; rfl
    rw [stp, e]
    refine ⟨?_, h2, hw, rfl⟩
    show gG (Fbh (jM.mk p) m) _ = _
    rw [h1]; rfl
  | rule r =>
    have hw' : 0 ≤ r ∧ r < R := hw
    obtain ⟨x, hx⟩ := aCh (l := m.rules) (i := r) ⟨hw'.1, by omega⟩
    have e : ruleT m r = x := by unfold ruleT; rw [hx]; rfl
    rw [stp, e]
    refine ⟨?_, hr x ?_, hw, rfl⟩
    · show gG (gG (at' m.rules r) _) _ = _
      rw [hx]; rfl
    · unfold at' at hx
      rw [if_pos hw'.1] at hx
      exact List.mem_of_getElem? hx
  | not k =>
    rw [dpN] at hd
    obtain ⟨h1, h2, h3, h4⟩ := hk k (by omega) hw
    rw [stp]
    refine ⟨?_, opp_rng _, h3, by rw [dpN, dpN, h4]⟩
    show gG (Fbs rf (jG.mk k) m) _ = _
    rw [not_ok h1]; rfl
  | group ks any =>
    rw [dpN] at hd
    obtain ⟨hw1, hw2⟩ := hw
    have hks : ∀ k ∈ ks, aAg m R rf k := fun k hm => hk k (by have := aLo hm; omega) (aBr.1 hw1 k hm)
    have e : (stp m (.group ks any)).2 = .group ((ks.map (stp m)).map Prod.snd) any := by rw [stp, aIa]
    refine ⟨?_, ?_, ?_, ?_⟩
    · show gG (Fca rf (aP.mk ks any) m) _ = _
      rw [group_ok hw2 fun k hm => (hks k hm).1]
      show some (_, _) = some (stp m (.group ks any))
      rw [← e]
    · rw [stp]
      refine aUh ?_ _ _ ?_ <;> cases any <;> simp
    · rw [e]
      refine ⟨aBr.2 fun x hx => ?_, by simpa using hw2⟩
      rw [List.map_map, List.mem_map] at hx
      obtain ⟨k, hm, rfl⟩ := hx
      exact (hks k hm).2.2.1
    · rw [e, dpN, dpN, aUi ks fun k hm => (hks k hm).2.2.2]
  | count k c fr last tot =>
    rw [dpN] at hd
    obtain ⟨w1, w2, w3, w4, w5, rfl⟩ := hw
    obtain ⟨h1, h2, h3, h4⟩ := hk k (by omega) w1
    rw [stp]
    refine ⟨?_, cntT_rng _ _ _, ⟨h3, w2, w3, ?_, ?_, rfl⟩, by rw [dpN, dpN, h4]⟩
    · show gG (Fb7 rf (dJ.mk k c fr last (sQ last)) m) _ = _
      rw [count_ok h1 h2 w2 w3 w4 w5]; rfl
    · unfold aNw
      split
      · rw [List.length_tail]; omega
      · rename_i q; simp at q ⊢; omega
    · intro t ht
      have : t ∈ last ++ [(stp m k).1] := by
        unfold aNw at ht
        split at ht
        · exact List.mem_of_mem_tail ht
        · exact ht
      rcases List.mem_append.1 this with q | q
      · exact w5 t q
      · obtain rfl := List.mem_singleton.1 q; exact h2
  | since a b last bg =>
    rw [dpN] at hd
    obtain ⟨w1, w2, w3⟩ := hw
    obtain ⟨h1, h2, h3, h4⟩ := hk a (by omega) w1
    obtain ⟨g1, g2, g3, g4⟩ := hk b (by omega) w2
    rw [stp]
    refine ⟨?_, aHm _ _ _, ⟨h3, g3, aHm _ _ _⟩, by rw [dpN, dpN, h4, g4]⟩
    show gG (Fbx rf (aN.mk a b last bg) m) _ = _
    rw [since_ok h1 g1]; rfl
  | rises k last bg =>
    rw [dpN] at hd
    obtain ⟨w1, w2⟩ := hw
    obtain ⟨h1, h2, h3, h4⟩ := hk k (by omega) w1
    rw [stp]
    refine ⟨?_, aQt _ _, ⟨h3, h2⟩, by rw [dpN, dpN, h4]⟩
    show gG (Fbv rf (aO.mk k last bg) m) _ = _
    rw [rises_ok h1]; rfl
theorem node_R {m:gQ}{R:Nat}(hP:m.possible.length≤2000000)(hR:R≤m.rules.length)(hr: ∀t ∈ m.rules,0≤t∧t≤2): ∀(n:Nat) (nd:Nd),dpN nd<n→wfN m.told.length m.possible.length R nd→aAg m R (Fd7 n) nd
  | 0,_,hd,_=>by omega
  | n+1,nd,hd,hw=>node_B hP hR hr (fun k hd hw=>node_R hP hR hr n k hd hw) nd hd hw
theorem aLe {m:gQ}{R:Nat}(hP:m.possible.length≤2000000)(hR:R≤m.rules.length)(hr: ∀t ∈ m.rules,0≤t∧t≤2){nd:Nd}(hd:dpN nd≤1000000)(hw:wfN m.told.length m.possible.length R nd):aAg m R Faf nd:=
  node_R hP hR hr FU nd (by have:(1000000:Nat)<FU:=vJ (by omega); omega) hw
end Go.Lf
namespace Go.Lf
def mvS (m:gQ)(x:fZ):fZ:=fZ.mk x.from_ x.to (stp m x.when).2
theorem aOe {m : gQ} (l : List fZ) (hl : l.length ≤ 1000000) (h : ∀ x ∈ l, Faf x.when m = some (stp m x.when)) :
    Ffe m (l.length : Int) ([], 0, l) = some (l.map (fun x => (stp m x.when).1), l.map (mvS m)) := by
  unfold Ffe
  refine bI (β := List Int × List fZ) (fun i => ((l.take i).map (fun x => (stp m x.when).1), (i : Int), (l.take i).map (mvS m) ++ l.drop i)) l (some (l.map (fun x => (stp m x.when).1), l.map (mvS m))) (by omega) (fun k i x hx hi => ?_) (fun k => ?_)
  · have hd : l.drop i = x :: l.drop (i + 1) := by
      rw [List.drop_eq_getElem_cons hi]; congr 1
      exact (List.getElem?_eq_some_iff.1 hx).2
    have ht : l.take (i + 1) = l.take i ++ [x] := by rw [List.take_add_one, hx]; rfl
    have hlen : ((l.take i).map (mvS m)).length = i := by simp; omega
    have hlen2 : ((l.take i).map (fun x => (stp m x.when).1)).length ≤ 1000000 := by simp; omega
    simp only [zM, wB]
    rw [if_pos (by omega), hd, aLk _ _ _ i hlen]
    show gG (Faf x.when m) _ = _
    rw [h x (List.mem_of_getElem? hx)]
    show gG (app' 8 _ _) _ = _
    rw [ap8 hlen2, eH hi (by omega)]
    show gG (set' _ _ _) _ = _
    rw [aLs _ x _ _ i hlen, ht]
    show k _ = k _
    simp [mvS]
  · simp only [zM, wB]
    rw [if_neg (by omega)]
    simp
def rst (told:List dB)(ps:List Bool):List Int→List Nd→List (Int×Nd)
  | _,[]=>[]
  | acc,k :: ks=>stp (gQ.mk told ps acc) k :: rst told ps (acc++ [(stp (gQ.mk told ps acc) k).1]) ks
theorem uH {told:List dB}{ps:List Bool}: ∀(l:List Nd) (acc:List Int),(rst told ps acc l).length=l.length
  | [],_=>rfl
  | k :: ks,acc=>by rw [rst,List.length_cons,List.length_cons,uH ks]
theorem aMe {told:List dB}{ps:List Bool}: ∀(l:List Nd) (acc:List Int) (i:Nat) (k:Nd),l[i]? =some k→
    (rst told ps acc l)[i]? =some (stp (gQ.mk told ps (acc++((rst told ps acc l).take i).map Prod.fst)) k)
  | [],_,i,k,h=>by simp at h
  | x :: l,acc,0,k,h=>by
    obtain rfl:x=k:=by simpa using h
    rw [rst]; simp
  | x :: l,acc,i+1,k,h=>by
    rw [rst,List.getElem?_cons_succ,aMe l _ i k (by simpa using h)]
    simp
theorem aQs {told : List dB} {x40 : fC} (l : List Nd) (hl : l.length ≤ 1000000)
    (h : ∀ (i : Nat) k, l[i]? = some k → Faf k (gQ.mk told x40.possible (((rst told x40.possible [] l).take i).map Prod.fst)) = some (stp (gQ.mk told x40.possible (((rst told x40.possible [] l).take i).map Prod.fst)) k)) :
    Fe3 told x40 (l.length : Int) (0, l, []) = some ((rst told x40.possible [] l).map Prod.snd, (rst told x40.possible [] l).map Prod.fst) := by
  generalize hrs : rst told x40.possible [] l = rs at h
  have hrl : rs.length = l.length := by rw [← hrs, uH]
  unfold Fe3
  refine bI (β := List Nd × List Int) (fun i => ((i : Int), (rs.take i).map Prod.snd ++ l.drop i, (rs.take i).map Prod.fst)) l (some (rs.map Prod.snd, rs.map Prod.fst)) (by omega) (fun k i x hx hi => ?_) (fun k => ?_)
  · have hd : l.drop i = x :: l.drop (i + 1) := by
      rw [List.drop_eq_getElem_cons hi]; congr 1
      exact (List.getElem?_eq_some_iff.1 hx).2
    have hri : rs[i]? = some (stp (gQ.mk told x40.possible ((rs.take i).map Prod.fst)) x) := by
      have := aMe (told := told) (ps := x40.possible) l [] i x hx
      rw [hrs] at this
      simpa using this
    have ht : rs.take (i + 1) = rs.take i ++ [stp (gQ.mk told x40.possible ((rs.take i).map Prod.fst)) x] := by rw [List.take_add_one, hri]; rfl
    have hlen : ((rs.take i).map Prod.snd).length = i := by simp; omega
    have hlen2 : ((rs.take i).map Prod.fst).length ≤ 1000000 := by simp; omega
    simp only [zM, wB]
    rw [if_pos (by omega), hd, aLk _ _ _ i hlen]
    show gG (Faf x _) _ = _
    rw [h i x hx]
    show gG (app' 8 _ _) _ = _
    rw [ap8 hlen2, eH hi (by omega)]
    show gG (set' _ _ _) _ = _
    rw [aLs _ x _ _ i hlen, ht]
    show k _ = k _
    simp
  · simp only [zM, wB]
    rw [if_neg (by omega)]
    have e1 : rs.take l.length = rs := List.take_of_length_le (by omega)
    simp [e1]
end Go.Lf
namespace Go.Lf
def uX (p:Int):List (fZ×Int)→List Bool→Bool×List Bool
  | [],nx=>(true,nx)
  | (mv,t) :: r,nx=>if mv.from_≠p∨t=1 then uX p r nx else if t=2 then (false,nx.set mv.to.toNat true) else uX p r (nx.set mv.to.toNat true)
theorem aDg (p : Int) : ∀ (l : List (fZ × Int)) (nx : List Bool), (uX p l nx).2.length = nx.length
  | [], _ => rfl
  | (mv, t) :: r, nx => by
    rw [uX]
    split
    · exact aDg p r nx
    · split
      · simp
      · rw [aDg p r]; simp
theorem aRi {α:Type}{l:List α}{i:Int}{x:α}(h:0≤i∧i<l.length):set' l i x=some (l.set i.toNat x):=by
 unfold set';rw [if_pos h]
def f3 (p:Int)(_:Nat)(y:fZ×Int)(nx:List Bool):List Bool ⊕ Option (Bool×List Bool):=
  if y.1.from_≠p then .inl nx else if y.2=1 then .inl nx else
  match at' nx y.1.to with
  | none=> .inr none
  | some _=>match set' nx y.1.to true with
    | none=> .inr none
    | some nx'=>if y.2=2 then .inr (some (false,nx')) else .inl nx'
theorem run3 (p : Int) (P : Nat) : ∀ (l : List (fZ × Int)) (i : Nat) (nx : List Bool), nx.length = P → (∀ y ∈ l, 0 ≤ y.1.to ∧ y.1.to < P) →
    aBe (f3 p) (fun nx => some (true, nx)) l i nx = some (uX p l nx)
  | [], _, nx, _, _ => rfl
  | (mv, t) :: r, i, nx, hn, h => by
    have h0 := h (mv, t) List.mem_cons_self
    have hr : ∀ y ∈ r, 0 ≤ y.1.to ∧ y.1.to < P := fun y hy => h y (List.mem_cons_of_mem _ hy)
    obtain ⟨x, hx⟩ := aCh (l := nx) (i := mv.to) ⟨h0.1, by rw [hn]; exact h0.2⟩
    have hs := aRi (l := nx) (i := mv.to) (x := true) ⟨h0.1, by rw [hn]; exact h0.2⟩
    rw [aBe, uX]
    unfold f3
    dsimp only
    by_cases c1 : mv.from_ ≠ p
    · rw [if_pos c1, if_pos (Or.inl c1)]
      exact run3 p P r (i + 1) nx hn hr
    · rw [if_neg c1]
      by_cases c2 : t = 1
      · rw [if_pos c2, if_pos (Or.inr c2)]
        exact run3 p P r (i + 1) nx hn hr
      · rw [if_neg c2, if_neg (by intro q; rcases q with q | q; exact c1 q; exact c2 q), hx, hs]
        dsimp only
        by_cases c3 : t = 2
        · rw [if_pos c3, if_pos c3]
        · rw [if_neg c3, if_neg c3]
          exact run3 p P r (i + 1) _ (by simpa using hn) hr
theorem L3_ok (p : Int) (ts : List Int) (mvs : List fZ) (P : Nat) (hl : mvs.length ≤ 1000000) (ht : ts.length = mvs.length) (nx : List Bool) (hn : nx.length = P) (h : ∀ y ∈ mvs, 0 ≤ y.to ∧ y.to < P) :
    Fci ts mvs p (mvs.length : Int) (0, nx) = some (uX p (mvs.zip ts) nx) := by
  have hz : (mvs.zip ts).length = mvs.length := by simp [ht]
  rw [← run3 p P (mvs.zip ts) 0 nx hn (fun y hy => h y.1 (List.of_mem_zip hy).1)]
  refine nM (β := Bool × List Bool) (fun i (s : List Bool) => ((i : Int), s)) (mvs.zip ts) (f3 p) (fun nx => some (true, nx)) (by omega) (fun k i s y hy => ?_) (fun k s => ?_) nx
  · have hi : i < mvs.length := by rw [← hz]; exact (List.getElem?_eq_some_iff.1 hy).1
    obtain ⟨mv, t⟩ := y
    have hm : mvs[i]? = some mv ∧ ts[i]? = some t := by
      rw [List.getElem?_zip_eq_some] at hy; exact hy
    simp only [zM, wB]
    rw [if_pos (by omega)]
    show dW _ _ = _
    unfold f3 dW
    rw [xQ hm.1]
    simp only [gG]
    by_cases c1 : mv.from_ ≠ p
    · rw [if_pos c1, if_pos c1]
      simp only [gU]
      rw [eH hi (by omega)]
    · rw [if_neg c1, if_neg c1, xQ hm.2]
      dsimp only
      by_cases c2 : t = 1
      · rw [if_pos c2]
        simp only [c2, decide_true, gU]
        rw [eH hi (by omega)]
      · rw [if_neg c2]
        simp only [c2, decide_false, gU]
        cases hx : at' s mv.to with
        | none => rfl
        | some b =>
          cases hs : set' s mv.to true with
          | none => rfl
          | some s' =>
            dsimp only
            by_cases c3 : t = 2
            · rw [if_pos c3, if_pos c3]
            · rw [if_neg c3, if_neg c3, eH hi (by omega)]
  · simp only [zM, wB]
    rw [if_neg (by omega)]
end Go.Lf
namespace Go.Lf
def aHa (zs:List (fZ×Int))(i:Nat)(is:Bool)(nx:List Bool):List Bool:=
  if is then (uX (i:Int) zs nx).2.set i ((uX (i:Int) zs nx).2.getD i false || (uX (i:Int) zs nx).1) else nx
def aRl (zs:List (fZ×Int)):List Bool→Nat→List Bool→List Bool
  | [],_,nx=>nx
  | is :: r,i,nx=>aRl zs r (i+1) (aHa zs i is nx)
theorem aKh (zs:List (fZ×Int))(i:Nat)(is:Bool)(nx:List Bool):(aHa zs i is nx).length=nx.length:=by
 unfold aHa;split;rw [List.length_set,aDg];rfl
theorem aNb (zs:List (fZ×Int)): ∀(l:List Bool) (i:Nat) (nx:List Bool),(aRl zs l i nx).length=nx.length
  | [],_,_=>rfl
  | is :: r,i,nx=>by rw [aRl,aNb zs r,aKh]
def f2 (ts:List Int)(mvs:List fZ)(i:Nat)(is:Bool)(nx:List Bool):List Bool ⊕ Option (List Bool):=
  if is then
    match Fci ts mvs (i:Int) (mvs.length:Int) (0,nx) with
    | none=> .inr none
    | some y=>match at' y.2 (i:Int) with
      | none=> .inr none
      | some b=>match set' y.2 (i:Int) (if b then true else y.1) with
        | none=> .inr none
        | some z=> .inl z
  else .inl nx
theorem run2 (ts : List Int) (mvs : List fZ) (P : Nat) (hl : mvs.length ≤ 1000000) (ht : ts.length = mvs.length) (h : ∀ y ∈ mvs, 0 ≤ y.to ∧ y.to < P) : ∀ (l : List Bool) (i : Nat) (nx : List Bool), nx.length = P → i + l.length ≤ P →
    aBe (f2 ts mvs) some l i nx = some (aRl (mvs.zip ts) l i nx)
  | [], _, _, _, _ => rfl
  | is :: r, i, nx, hn, hi => by
    have hi' : i + 1 + r.length ≤ P := by rw [List.length_cons] at hi; omega
    rw [aBe, aRl]
    unfold f2
    cases is
    · simp only [Bool.false_eq_true, if_false]
      rw [show aHa (mvs.zip ts) i false nx = nx by unfold aHa; simp]
      exact run2 ts mvs P hl ht h r (i + 1) nx hn hi'
    · rw [L3_ok (i : Int) ts mvs P hl ht nx hn h]
      have hlen : (uX (i : Int) (mvs.zip ts) nx).2.length = P := by rw [aDg]; exact hn
      have hlt : i < (uX (i : Int) (mvs.zip ts) nx).2.length := by omega
      have ha : at' (uX (i : Int) (mvs.zip ts) nx).2 (i : Int) = some ((uX (i : Int) (mvs.zip ts) nx).2.getD i false) := xQ (by rw [List.getElem?_eq_getElem hlt, List.getD_eq_getElem?_getD, List.getElem?_eq_getElem hlt]; rfl)
      simp only [if_true]
      rw [ha]
      dsimp only
      rw [aRi ⟨by omega, by omega⟩]
      dsimp only
      have e : (uX (i : Int) (mvs.zip ts) nx).2.set (i : Int).toNat (if (uX (i : Int) (mvs.zip ts) nx).2.getD i false then true else (uX (i : Int) (mvs.zip ts) nx).1) = aHa (mvs.zip ts) i true nx := by
        unfold aHa
        rw [if_pos rfl, Int.toNat_natCast]
        cases (uX (i : Int) (mvs.zip ts) nx).2.getD i false <;> rfl
      rw [e]
      exact run2 ts mvs P hl ht h r (i + 1) _ (by rw [aKh]; exact hn) hi'
theorem L2_ok (w : fC) (ts : List Int) (mvs : List fZ) (P : Nat) (hP : P ≤ 1000000) (hw : w.possible.length = P) (hl : mvs.length ≤ 1000000) (ht : ts.length = mvs.length) (h : ∀ y ∈ mvs, 0 ≤ y.to ∧ y.to < P) (nx : List Bool) (hn : nx.length = P) :
    Fga w ts mvs (w.possible.length : Int) (0, nx) = some (aRl (mvs.zip ts) w.possible 0 nx) := by
  rw [← run2 ts mvs P hl ht h w.possible 0 nx hn (by omega)]
  refine nM (β := List Bool) (fun i (s : List Bool) => ((i : Int), s)) w.possible (f2 ts mvs) some (by omega) (fun k i s is hy => ?_) (fun k s => ?_) nx
  · have hi : i < w.possible.length := (List.getElem?_eq_some_iff.1 hy).1
    simp only [zM, wB]
    rw [if_pos (by omega), xQ hy]
    unfold f2
    simp only [gG]
    cases is
    · simp only [Bool.not_false, gU, Bool.false_eq_true, if_false]
      rw [eH hi (by omega)]
    · simp only [Bool.not_true, gU, if_true]
      cases hL : Fci ts mvs (i : Int) (mvs.length : Int) (0, s) with
      | none => rfl
      | some y =>
        obtain ⟨st, z⟩ := y
        dsimp only
        cases ha : at' z (i : Int) with
        | none => rfl
        | some b =>
          cases b
          · dsimp only
            simp only [Bool.false_eq_true, if_false]
            cases hs : set' z (i : Int) st with
            | none => rfl
            | some q => dsimp only; rw [eH hi (by omega)]
          · dsimp only
            simp only [if_true]
            cases hs : set' z (i : Int) true with
            | none => rfl
            | some q => dsimp only; rw [eH hi (by omega)]
  · simp only [zM, wB]
    rw [if_neg (by omega)]
end Go.Lf
namespace Go.Lf
structure WfW (w:fC)(T P:Nat):Prop where
  ph:w.phases.length=P
  po:w.possible.length=P
  pb:P≤1000000
  tr:w.tracks=(T:Int)
  ml:w.moves.length≤1000000
  rl:w.rules.length≤1000000
  mv: ∀x ∈ w.moves,(0≤x.to∧x.to<P)∧wfN T 0 0 x.when∧dpN x.when≤1000000
  ru: ∀(i:Nat) k,w.rules[i]? =some k→wfN T P i k∧dpN k≤1000000
def mv0 (told:List dB):gQ:=gQ.mk told [] []
def uV (told:List dB)(w:fC):List Bool:=
  aRl ((w.moves.map (mvS (mv0 told))).zip (w.moves.map fun x=>(stp (mv0 told) x.when).1)) w.possible 0 (List.replicate w.phases.length false)
def nxt (told:List dB)(w:fC):List Int×fC:=
  ((rst told (uV told w) [] w.rules).map Prod.fst,fC.mk w.phases w.tracks (w.moves.map (mvS (mv0 told))) ((rst told (uV told w) [] w.rules).map Prod.snd) (uV told w))
theorem rst_ok {told:List dB}{ps:List Bool}(hP:ps.length≤2000000): ∀(l:List Nd) (acc:List Int),(∀t ∈ acc,0≤t∧t≤2)→(∀(j:Nat) k,l[j]? =some k→wfN told.length ps.length (acc.length+j) k∧dpN k≤1000000)→
    ∀(j:Nat) k,l[j]? =some k→aAg (gQ.mk told ps (acc++((rst told ps acc l).take j).map Prod.fst)) (acc.length+j) Faf k
  | [],_,_,_,j,k,h=>by simp at h
  | x :: l,acc,ha,hw,0,k,h=>by
    obtain rfl:x=k:=by simpa using h
    have q:=hw 0 x rfl
    have:=aLe (m:=gQ.mk told ps acc) (R:=acc.length) hP (Nat.le_refl _) ha q.2 q.1
    simpa using this
  | x :: l,acc,ha,hw,j+1,k,h=>by
    have q:=hw 0 x rfl
    have o:=aLe (m:=gQ.mk told ps acc) (R:=acc.length) hP (Nat.le_refl _) ha q.2 q.1
    have ih:=rst_ok hP l (acc++ [(stp (gQ.mk told ps acc) x).1]) (fun t ht=>by
        rcases List.mem_append.1 ht with h | h
        · exact ha t h
        · obtain rfl:=List.mem_singleton.1 h; exact o.2.1) (fun i y hy=>by
        have:=hw (i+1) y (by simpa using hy)
        have e:(acc++ [(stp (gQ.mk told ps acc) x).1]).length+i=acc.length+(i+1):=by simp; omega
        rw [e]; exact this) j k (by simpa using h)
    rw [rst]
    simp only [List.take_succ_cons,List.map_cons]
    have e:(acc++ [(stp (gQ.mk told ps acc) x).1]).length+j=acc.length+(j+1):=by simp; omega
    rw [e,List.append_assoc,List.singleton_append] at ih
    exact ih
theorem moved_ok {told:List dB}{w:fC}{T P:Nat}(hw:WfW w T P)(ht:told.length=T):
    Fb3 w (mv0 told)=some (fC.mk w.phases w.tracks (w.moves.map (mvS (mv0 told))) w.rules (uV told w))∧ ∀x ∈ w.moves,aAg (mv0 told) 0 Faf x.when:=by
  have ok: ∀x ∈ w.moves,aAg (mv0 told) 0 Faf x.when:=fun x hx=>by
    have q:=hw.mv x hx
    refine aLe (m:=mv0 told) (R:=0) (by simp [mv0]) (Nat.zero_le _) (by simp [mv0]) q.2.2 ?_
    subst ht
    exact q.2.1
  refine ⟨?_,ok⟩
  unfold Fb3
  simp only [zM]
  rw [aOe w.moves hw.ml fun x hx=>(ok x hx).1]
  have hm:make' 1 (w.phases.length:Int) false=some (List.replicate w.phases.length false):=by
    have:=hw.pb
    have:=hw.ph
    unfold make'
    rw [if_pos ⟨by omega,by omega,by omega⟩,Int.toNat_natCast]
  simp only [gG]
  rw [hm]
  dsimp only
  rw [L2_ok w _ (w.moves.map (mvS (mv0 told))) P hw.pb hw.po (by rw [List.length_map]; exact hw.ml) (by simp) (fun y hy=>by
    obtain ⟨x,hx,rfl⟩:=List.mem_map.1 hy
    exact (hw.mv x hx).1) _ (by rw [List.length_replicate]; exact hw.ph)]
  rfl
theorem next_ok {told : List dB} {w : fC} {T P : Nat} (hw : WfW w T P) (ht : told.length = T) :
    Fb6 w told = some (nxt told w) ∧ WfW (nxt told w).2 T P ∧ (∀ t ∈ (nxt told w).1, 0 ≤ t ∧ t ≤ 2) ∧ (nxt told w).1.length = w.rules.length := by
  obtain ⟨m1, m2⟩ := moved_ok hw ht
  have hpl : (uV told w).length = P := by unfold uV; rw [aNb, List.length_replicate]; exact hw.ph
  have ok := rst_ok (told := told) (ps := uV told w) (by rw [hpl]; have := hw.pb; omega) w.rules [] (by simp) (fun j k h => by
    have := hw.ru j k h
    rw [ht, hpl]; simpa using this)
  have hrs : ∀ (j : Nat) k, w.rules[j]? = some k → (rst told (uV told w) [] w.rules)[j]? = some (stp (gQ.mk told (uV told w) (((rst told (uV told w) [] w.rules).take j).map Prod.fst)) k) := fun j k h => by
    have := aMe (told := told) (ps := uV told w) w.rules [] j k h
    simpa using this
  have ok' : ∀ (j : Nat) k, w.rules[j]? = some k → aAg (gQ.mk told (uV told w) (((rst told (uV told w) [] w.rules).take j).map Prod.fst)) j Faf k := fun j k h => by
    have := ok j k h
    simpa using this
  refine ⟨?_, ⟨hw.ph, hpl, hw.pb, hw.tr, by show (w.moves.map _).length ≤ _; rw [List.length_map]; exact hw.ml, by show ((rst told (uV told w) [] w.rules).map Prod.snd).length ≤ _; rw [List.length_map, uH]; exact hw.rl, fun y hy => ?_, fun i k hk => ?_⟩, fun t h => ?_, by show ((rst told (uV told w) [] w.rules).map Prod.fst).length = _; rw [List.length_map, uH]⟩
  · unfold Fb6
    show gG (Fb3 w (mv0 told)) _ = _
    rw [m1]
    simp only [gG, zM]
    rw [aQs (x40 := fC.mk w.phases w.tracks (w.moves.map (mvS (mv0 told))) w.rules (uV told w)) w.rules hw.rl fun i k h => (ok' i k h).1]
    rfl
  · obtain ⟨x, hx, rfl⟩ := List.mem_map.1 hy
    have q := hw.mv x hx
    have o := m2 x hx
    refine ⟨q.1, ?_, by rw [show (mvS (mv0 told) x).when = (stp (mv0 told) x.when).2 from rfl, o.2.2.2]; exact q.2.2⟩
    have := o.2.2.1
    subst ht
    exact this
  · have hk' : ((rst told (uV told w) [] w.rules).map Prod.snd)[i]? = some k := hk
    rw [List.getElem?_map] at hk'
    cases hr : w.rules[i]? with
    | none =>
      have : (rst told (uV told w) [] w.rules)[i]? = none := by
        rw [List.getElem?_eq_none_iff] at hr ⊢
        rw [uH]; exact hr
      rw [this] at hk'; cases hk'
    | some y =>
      rw [hrs i y hr] at hk'
      simp only [Option.map_some, Option.some.injEq] at hk'
      subst hk'
      have o := ok' i y hr
      refine ⟨?_, by rw [o.2.2.2]; exact (hw.ru i y hr).2⟩
      have := o.2.2.1
      rw [← ht, ← hpl]
      exact this
  · obtain ⟨y, hy, rfl⟩ := List.mem_map.1 h
    obtain ⟨j, hj⟩ := List.getElem?_of_mem hy
    have hl : j < w.rules.length := by
      have := (List.getElem?_eq_some_iff.1 hj).1
      rwa [uH] at this
    have o := ok' j _ (List.getElem?_eq_getElem hl)
    rw [hrs j _ (List.getElem?_eq_getElem hl)] at hj
    obtain rfl := Option.some.inj hj
    exact o.2.1
end Go.Lf
