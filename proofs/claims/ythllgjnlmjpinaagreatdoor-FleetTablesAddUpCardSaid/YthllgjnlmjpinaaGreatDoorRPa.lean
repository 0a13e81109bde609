/- Walks: what each function computes, for every argument; no condition but those that stand in the statements. -/
import Derived.Test.YthllgjnlmjpinaaGreatDoorFLa
import Derived.Test.YthllgjnlmjpinaaGreatDoorPl2
namespace Go.Lf
open Go.OB
def aEl (x:gK):Prop:=okS x.Key∧True∧i64 x.Flights∧okL (fun x=>i64 x) x.Events
end Go.Lf
namespace Go.Lf
section
variable {α β γ σ:Type}
theorem aKj (p:α→Bool): ∀(l:List α) (i:Nat),∃n,eH (fun i x=>if p x=true then some (some (i:Int)) else none) (some (-1)) l i=some n∧(l.find? p=none→n= -1)∧ ∀y,l.find? p=some y→ ∃j:Nat,n=((i+j:Nat):Int)∧l[j]? =some y
  | [],i=>⟨-1,rfl,fun _=>rfl,fun y h=>by cases h⟩
  | x :: l,i=>by
    rw [eH]
    cases h:p x with
    | true=>exact ⟨i,by simp,fun h'=>by simp [h] at h',fun y hy=>⟨0,by simp,by simpa [h] using hy⟩⟩
    | false=>
      obtain ⟨n,h1,h2,h3⟩:=aKj p l (i+1)
      refine ⟨n,by simpa using h1,fun h'=>h2 (by simpa [h] using h'),fun y hy=>?_⟩
      obtain ⟨j,e1,e2⟩:=h3 y (by simpa [h] using hy)
      exact ⟨j+1,by rw [e1]; congr 1; omega,by simpa using e2⟩
end
def wr (n:Int):Bool:= !(decide (0≤n) && decide (n≤1000000000))
theorem aKz (n:Int):Fbh n=some (wr n):=by
  unfold Fbh
  rw [uF]; rfl
theorem aKh {n:Int}:wr n=false↔0≤n∧n≤1000000000:=by unfold wr; simp
theorem contK_eq (l : List gK) (c : gK) (hl : l.length ≤ 9223372036854775807) : Fby l c = some (aX (fun _ y => decide (y.Key = c.Key)) l 0) := by
  obtain ⟨n, h1, h2⟩ := uC (fun (_ : Nat) (y : gK) => decide (y.Key = c.Key)) l 0
  have e : Fb1 l c = some n := by
    unfold Fb1
    simp only [zV, wK]
    unfold Few
    rw [← h1]
    refine xY l _ _ hl ?_ ?_
    · intro kk i x hx hi
      unfold Fd8
      simp only [zV, zL]
      rw [xN hi, yN, xZ hx, zL, eG hi hl]
      cases decide (x.Key = c.Key) <;> rfl
    · intro kk; simp only [zV]; rw [xQ]; rfl
  unfold Fby
  rw [e]
  simp only [zV, zL, h2]
theorem contW_eq (l : List Int) (hl : l.length ≤ 9223372036854775807) : Fbv l = some (aX (fun _ y => wr y) l 0) := by
  obtain ⟨n, h1, h2⟩ := uC (fun (_ : Nat) (y : Int) => wr y) l 0
  have e : Fbw l = some n := by
    unfold Fbw
    simp only [zV, wK]
    unfold Ffp
    rw [← h1]
    refine xY l _ _ hl ?_ ?_
    · intro kk i x hx hi
      simp only [zV]
      rw [xN hi, yN, xZ hx, zL, aKz, zL, eG hi hl]
      cases wr x <;> rfl
    · intro kk; simp only [zV]; rw [xQ]; rfl
  unfold Fbv
  rw [e]
  simp only [zV, zL, h2]
def shn (r:gK):Bool:= !r.Hidden
def many (l:List gK):Int:=match l.find? shn with
  | some y=>(y.Events.length:Int)
  | none=> -1
def badF (x:gK):Bool:=x.Hidden && (decide (x.Flights≠0) || decide (0<(x.Events.length:Int)))
def badW (x:gK):Bool:=wr x.Flights || aX (fun _ y=>wr y) x.Events 0
def aOh (l:List gK)(i:Nat)(x:gK):Int:=
  if aX (fun _ y=>decide (y.Key=x.Key)) (l.take i) 0 then 5 else if badF x then 2 else if badW x then 9 else if shn x && decide ((x.Events.length:Int)≠many l) then 2 else 0
def tabF (l:List gK):Option Int:=if decide (300<(l.length:Int)) then some 3 else eH (fun i x=>if aOh l i x=0 then none else some (some (aOh l i x))) (some 0) l 0
theorem first_eq (l : List gK) (hl : l.length ≤ 9223372036854775807) : ∃ n, Fc9 l = some n ∧ ∀ y, l.find? shn = some y → at' l n = some y := by
  obtain ⟨n, h1, _, h3⟩ := aKj shn l 0
  refine ⟨n, ?_, fun y hy => ?_⟩
  · unfold Fc9
    simp only [zV, wK]
    unfold Fet
    rw [← h1]
    refine xY l _ _ hl ?_ ?_
    · intro kk i x hx hi
      unfold Fd3
      simp only [zV, zL]
      rw [xN hi, yN, xZ hx, zL, eG hi hl]
      unfold shn
      cases x.Hidden <;> rfl
    · intro kk; simp only [zV]; rw [xQ]; rfl
  · obtain ⟨j, e1, e2⟩ := h3 y hy
    rw [e1, Nat.zero_add]; exact xZ e2
theorem aKn {l:List gK}{i:Nat}{x:gK}(hx:l[i]? =some x)(h:shn x=true): ∃y,l.find? shn=some y:=by
  cases e:l.find? shn with
  | some y=>exact ⟨y,rfl⟩
  | none=>
    rw [List.find?_eq_none] at e
    exact absurd h (e x (List.mem_of_getElem? hx))
theorem aFy (l : List gK) (h : okL aEl l) : Fb7 l = tabF l := by
  unfold Fb7 tabF
  simp only [zV, bT]
  congr 1
  obtain ⟨n, h1, h2⟩ := first_eq l h.1
  rw [h1, zL]
  simp only [wK]
  unfold Feu
  refine xY l _ _ h.1 ?_ ?_
  · intro kk i x hx hi
    have ox := h.2 x (List.mem_of_getElem? hx)
    simp only [zV]
    rw [xN hi, yN, xZ hx, zL, aCt l (Nat.le_of_lt hi), zL, contK_eq _ _ (Nat.le_trans (by rw [List.length_take]; exact Nat.min_le_right _ _) h.1), zL, eG hi h.1]
    simp only [aKz, contW_eq _ ox.2.2.2.1, zL, mP]
    unfold aOh
    cases aX (fun _ y => decide (y.Key = x.Key)) (l.take i) 0
    · have e1 : gU x.Hidden (some (decide (x.Flights ≠ 0) || decide (0 < (x.Events.length : Int)))) (some false) = some (badF x) := by unfold badF; cases x.Hidden <;> rfl
      rw [e1, zL]
      cases badF x
      · simp only [yM]
        show gU (badW x) _ _ = _
        cases badW x
        · simp only [yM]
          show gB (gU (shn x) _ _) _ = _
          cases hs : shn x
          · simp [yM, zL]
          · obtain ⟨y, hy⟩ := aKn hx hs
            rw [yN, h2 y hy, zL, zL]
            unfold many
            rw [hy]
            by_cases c : (x.Events.length : Int) = y.Events.length
            · simp [c, yM]
            · simp [c, yN]
        · rfl
      · rfl
    · rfl
  · intro kk; simp only [zV]; rw [xQ]; rfl
end Go.Lf
namespace Go.Lf
structure Gtb (l:List gK):Prop where
  few:l.length≤300
  key: ∀(i j:Nat) (x y:gK),l[i]? =some x→l[j]? =some y→i<j→x.Key≠y.Key
  hid: ∀x ∈ l,x.Hidden=true→x.Flights=0∧x.Events= []
  fl: ∀x ∈ l,0≤x.Flights∧x.Flights≤1000000000
  ev: ∀x ∈ l,∀n ∈ x.Events,0≤n∧n≤1000000000
  same: ∀x ∈ l,x.Hidden=false→(x.Events.length:Int)=many l
end Go.Lf
namespace Go.Lf
theorem app1 (p q:List Int)(h:p.length+q.length≤140737488355328):app' 1 p q=some (p++q):=by
  unfold app'
  rw [if_pos ⟨by rw [Go.OB.maxLen_eq]; omega,by omega⟩]
def aCn (a b:List Int):List Int:=List.zipWith (· + ·) a b
theorem aKm {a b:List Int}(h:a.length=b.length):(aCn a b).length=b.length:=by unfold aCn; rw [List.length_zipWith,h]; simp
theorem zadd_get {a b:List Int}{k:Nat}{x y:Int}(hx:a[k]? =some x)(hy:b[k]? =some y):(aCn a b)[k]? =some (x+y):=by
  unfold aCn; rw [List.getElem?_zipWith,hx,hy]
theorem aGk (x : gK) (b : Bool) (fl : Int) (ev : List Int) (hl : ev.length = x.Events.length) (hm : x.Events.length ≤ 9223372036854775807) (h1 : ∀ n ∈ ev, 0 ≤ n ∧ n ≤ 1000000000000) (h2 : ∀ n ∈ x.Events, 0 ≤ n ∧ n ≤ 1000000000) :
    Fdk x b fl (x.Events.length : Int) (0, ev) = some (fl, aCn ev x.Events, b) := by
  unfold Fdk
  refine aMa (fun (i : Nat) (s : List Int) => ((i : Int), s)) x.Events (fun j s => s.length = ev.length ∧ ∀ k : Nat, s[k]? = if k < j then (aCn ev x.Events)[k]? else ev[k]?) _ hm ?_ ?_ ev ⟨rfl, fun k => by simp⟩
  · intro kk j s y hy hj ⟨i1, i2⟩
    have hj' : j < ev.length := by omega
    have hs := i2 j
    rw [if_neg (Nat.lt_irrefl j), List.getElem?_eq_getElem hj'] at hs
    have he := h1 _ (List.getElem_mem hj')
    have hy2 := h2 y (List.mem_of_getElem? hy)
    have hz := zadd_get (List.getElem?_eq_getElem hj') hy
    generalize ev[j] = a at hs he hz
    refine ⟨s.set j (a + y), ⟨by simpa using i1, fun k => ?_⟩, ?_⟩
    · rw [List.getElem?_set]
      by_cases c : j = k
      · subst c
        rw [if_pos rfl, if_pos (by omega), if_pos (Nat.lt_succ_self j), hz]
      · rw [if_neg c, i2 k]
        by_cases c2 : k < j
        · rw [if_pos c2, if_pos (by omega)]
        · rw [if_neg c2, if_neg (by omega)]
    · simp only [zV]
      have hset : set' s (j : Int) (a + y) = some (s.set j (a + y)) := by
        unfold set'; rw [if_pos ⟨by omega, by omega⟩, Int.toNat_natCast]
      rw [xN hj, yN, xZ hy, zL, xZ hs, zL, zL, Go.OB.wrap_i64 (by omega) (by omega), hset, zL, eG hj hm]
  · intro kk s ⟨i1, i2⟩
    simp only [zV]
    rw [xQ, yM]
    have : s = aCn ev x.Events := by
      apply List.ext_getElem?
      intro k
      rw [i2 k]
      by_cases c : k < x.Events.length
      · rw [if_pos c]
      · rw [if_neg c, List.getElem?_eq_none (by omega), List.getElem?_eq_none (by rw [aKm hl]; omega)]
    rw [this]
end Go.Lf
namespace Go.Lf
def aPe (s:Int×List Int×Bool)(x:gK):Int×List Int×Bool:=if x.Hidden=true then s else (s.1+x.Flights,if s.2.2=true then x.Events else aCn s.2.1 x.Events,false)
def rE (l:List gK)(i:Nat):Int×List Int×Bool:=(l.take i).foldl aPe (0,[],true)
theorem aDt {l:List gK}{i:Nat}{x:gK}(hx:l[i]? =some x):rE l (i+1)=aPe (rE l i) x:=by
  unfold rE
  rw [aO hx,List.foldl_append]; rfl
structure Gs (l:List gK)(i:Nat)(s:Int×List Int×Bool):Prop where
  fl:0≤s.1∧s.1≤1000000000 * (i:Int)
  ev: ∀n ∈ s.2.1,0≤n∧n≤1000000000 * (i:Int)
  nil:s.2.2=true→s.2.1= []
  len:s.2.2=false→(s.2.1.length:Int)=many l
theorem zadd_mem {a b:List Int}{n:Int}(h:n ∈ aCn a b): ∃x ∈ a,∃y ∈ b,n=x+y:=by
  unfold aCn at h
  obtain ⟨i,hi⟩:=List.getElem?_of_mem h
  rw [List.getElem?_zipWith] at hi
  cases ha:a[i]? with
  | none=>rw [ha] at hi; simp at hi
  | some x=>
    cases hb:b[i]? with
    | none=>rw [ha,hb] at hi; simp at hi
    | some y=>
      rw [ha,hb] at hi
      exact ⟨x,List.mem_of_getElem? ha,y,List.mem_of_getElem? hb,(Option.some.inj hi).symm⟩
theorem gs_next {l : List gK} (g : Gtb l) {i : Nat} {x : gK} (hx : l[i]? = some x) {s : Int × List Int × Bool} (h : Gs l i s) : Gs l (i + 1) (aPe s x) := by
  have hm := List.mem_of_getElem? hx
  unfold aPe
  cases hh : x.Hidden with
  | true =>
    rw [if_pos rfl]
    refine ⟨?_, fun n hn => ?_, h.nil, h.len⟩
    · have := h.fl; omega
    · have := h.ev n hn; omega
  | false =>
    rw [if_neg Bool.false_ne_true]
    have hl := g.same x hm hh
    have hf := g.fl x hm
    refine ⟨?_, fun n hn => ?_, fun h' => by simp at h', fun _ => ?_⟩
    · have := h.fl; simp only []; omega
    · simp only [] at hn
      cases hb : s.2.2 with
      | true =>
        rw [hb, if_pos rfl] at hn
        have := g.ev x hm n hn; omega
      | false =>
        rw [hb, if_neg Bool.false_ne_true] at hn
        obtain ⟨a, ha, b, hb', rfl⟩ := zadd_mem hn
        have := h.ev a ha
        have := g.ev x hm b hb'
        omega
    · simp only []
      cases hb : s.2.2 with
      | true => rw [if_pos rfl]; exact hl
      | false =>
        rw [if_neg Bool.false_ne_true, aKm (by have := h.len hb; omega)]; exact hl
theorem gs_all {l:List gK}(g:Gtb l): ∀(i:Nat),i≤l.length→Gs l i (rE l i)
  | 0,_=>⟨⟨Int.le_refl _,by simp [rE]⟩,fun n hn=>by simp [rE] at hn,fun _=>rfl,fun h=>by simp [rE] at h⟩
  | i+1,h=>by
    have hx:=List.getElem?_eq_getElem (show i<l.length by omega)
    rw [aDt hx]
    exact gs_next g hx (gs_all g i (by omega))
theorem aHi: ∀(l:List Int),aCn (List.replicate l.length 0) l=l
  | []=>rfl
  | x :: l=>by
    have ih:=aHi l
    unfold aCn at ih ⊢
    rw [List.length_cons,List.replicate_succ,List.zipWith_cons_cons,ih,Int.zero_add]
theorem fTotal_L1 {l : List gK} (g : Gtb l) (hE : ∀ x ∈ l, x.Events.length ≤ 1048576) : Fei l (l.length : Int) (0, 0, [], true) = some (rE l l.length) := by
  have hf := g.few
  unfold Fei
  refine aMa (fun (i : Nat) (s : Int × List Int × Bool) => ((i : Int), s.1, s.2.1, s.2.2)) l (fun i s => s = rE l i) _ (by omega) ?_ ?_ (0, [], true) rfl
  · intro kk i s x hx hi hI
    have hm := List.mem_of_getElem? hx
    have gs := gs_all g i (by omega)
    rw [← hI] at gs
    refine ⟨aPe s x, by rw [hI, aDt hx], ?_⟩
    simp only [zV]
    rw [xN hi, yN, xZ hx, zL, eG hi (by omega)]
    unfold aPe
    cases hh : x.Hidden with
    | true => rw [yN, zL, if_pos rfl]
    | false =>
      rw [yM, if_neg Bool.false_ne_true]
      have hl := g.same x hm hh
      have hfl := g.fl x hm
      have hEx := hE x hm
      have f1 := gs.fl
      have f2 := gs.ev
      have f4 := gs.len
      obtain ⟨fl, ev, b⟩ := s
      simp only [] at f1 f2 f4 ⊢
      cases b with
      | true =>
        have hmk : make' 8 (x.Events.length : Int) (0 : Int) = some (List.replicate x.Events.length 0) := by
          unfold make'; rw [if_pos ⟨by omega, by rw [Int.toNat_natCast]; omega, by omega⟩, Int.toNat_natCast]
        rw [yN, hmk, zL, zL, if_pos rfl]
        simp only []
        rw [aGk x false _ (List.replicate x.Events.length 0) (by simp) (by omega) (fun n hn => by have := List.eq_of_mem_replicate hn; omega) (g.ev x hm), zL, aHi, Go.OB.wrap_i64 (by omega) (by omega)]
      | false =>
        have hl2 := f4 rfl
        rw [yM, zL, if_neg Bool.false_ne_true]
        simp only []
        rw [aGk x false _ ev (by omega) (by omega) (fun n hn => by have := f2 n hn; omega) (g.ev x hm), zL, Go.OB.wrap_i64 (by omega) (by omega)]
  · intro kk s hI
    simp only [zV]
    rw [xQ, yM, hI]
def tot (l:List gK):gK:=gK.mk [] false (rE l l.length).1 (rE l l.length).2.1
end Go.Lf
namespace Go.Lf
theorem uO (p:List Int)(n:Int)(hn:0≤n∧n≤18446744073709551615)(h:p.length+20≤140737488355328): ∃q,Fc5 p n 10=some q∧q.length≤p.length+20:=by
  unfold Fc5
  rw [if_pos ⟨rfl,hn.1,hn.2,h⟩]
  refine ⟨_,rfl,?_⟩
  rw [List.length_append,aW,Lib.decDigits_length]
  have:=Lib.nDigits_le20 n.toNat (by omega)
  omega
theorem aRn (n:Int):0≤IntKind.u64.wrap n∧IntKind.u64.wrap n≤18446744073709551615:=by
  rw [IntKind.wrap_u64]; omega
theorem aJt (p : List Int) (n : Int) (h : p.length + 21 ≤ 140737488355328) : ∃ q, Fcx p n 10 = some q ∧ q.length ≤ p.length + 21 := by
  have e : ∃ q, Fbx p n 10 = some q ∧ q.length ≤ p.length + 21 := by
    unfold Fbx
    simp only [zV, wI]
    by_cases c : n < 0
    · have ha := app1 p [45] (by simp; omega)
      rw [if_pos c, ha, zL, zL]
      obtain ⟨q, h1, h2⟩ := uO (p ++ [45]) (IntKind.u64.wrap (-IntKind.u64.wrap n)) (aRn _) (by simp; omega)
      simp only []
      rw [h1, zL]
      exact ⟨q, rfl, by simp at h2; omega⟩
    · rw [if_neg c, zL]
      obtain ⟨q, h1, h2⟩ := uO p (IntKind.u64.wrap n) (aRn _) (by omega)
      simp only []
      rw [h1, zL]
      exact ⟨q, rfl, by omega⟩
  obtain ⟨q, h1, h2⟩ := e
  unfold Fcx
  rw [h1, zL]
  exact ⟨q, rfl, h2⟩
def Gr (r:Option gI)(n:Nat):Prop:= ∃q,r=some q∧q.out.length≤n
theorem Gr.bind {a:Option gI}{k:gI→Option gI}{n m:Nat}(h:Gr a n)(hk: ∀q,q.out.length≤n→Gr (k q) m):Gr (gB a k) m:=by
  obtain ⟨q,h1,h2⟩:=h
  rw [h1,zL]; exact hk q h2
theorem Gr.some {q:gI}{n:Nat}(h:q.out.length≤n):Gr (Option.some q) n:=⟨q,rfl,h⟩
theorem tX (p:gI)(n:Int){b:Nat}(hp:p.out.length≤b)(h:b≤100000000000000):Gr (Fag p n) (b+22):=by
  obtain ⟨q,h1,h2⟩:=aJt p.out n (by omega)
  unfold Fag
  rw [h1,zL]
  simp only [zV]
  rw [app1 q [32] (by simp; omega),zL]
  exact Gr.some (by simp; omega)
theorem ink_Ints (p : gI) (l : List Int) {b : Nat} (hp : p.out.length ≤ b) (h : b + 22 + 22 * l.length ≤ 100000000000000) : Gr (Fcd p l) (b + 22 + 22 * l.length) := by
  unfold Fcd
  simp only [zV]
  refine (tX p _ hp (by omega)).bind fun q hq => ?_
  unfold Ffd
  refine aJ (fun (i : Nat) (s : List Int) => ((i : Int), s)) l (fun i s => s.length ≤ b + 22 + 22 * i) (fun (r : gI) => r.out.length ≤ b + 22 + 22 * l.length) (by omega) ?_ ?_ _ (by simpa using hq)
  · intro kk i s x hx hi hI
    obtain ⟨r, h1, h2⟩ := tX (gI.mk s) x hI (by omega)
    refine ⟨r.out, by omega, ?_⟩
    simp only [zV]
    rw [xN hi, yN, xZ hx, zL, h1, zL, eG hi (by omega)]
  · intro kk s hI
    simp only [zV]
    rw [xQ, yM]
    exact ⟨_, rfl, hI⟩
theorem ink_Text (p:gI)(s:Str){b:Nat}(hp:p.out.length≤b)(h:b+22+s.length≤100000000000000):Gr (Fc1 p s) (b+22+s.length):=by
  unfold Fc1
  simp only [zV]
  refine (tX p _ hp (by omega)).bind fun q hq=>?_
  rw [app1 q.out (nums s) (by rw [aW]; omega),zL]
  exact Gr.some (by simp [aW]; omega)
theorem ink_Bool (p:gI)(x:Bool){b:Nat}(hp:p.out.length≤b)(h:b≤100000000000000):Gr (Fcy p x) (b+5):=by
  unfold Fcy Fd5 Fd6
  cases x with
  | true=>rw [yN,app1 p.out _ (by rw [aW]; simp only [List.length_cons,List.length_nil]; omega),zL,zL,zL]; exact Gr.some (by simp [aW]; omega)
  | false=>rw [yM,app1 p.out _ (by rw [aW]; simp only [List.length_cons,List.length_nil]; omega),zL,zL,zL]; exact Gr.some (by simp [aW]; omega)
theorem ink_Row (p:gI)(x:gK){b:Nat}(hk:x.Key.length≤1048576)(he:x.Events.length≤1048576)(hp:p.out.length≤b)(h:b≤100000000):Gr (Fca p x) (b+30000000):=by
  unfold Fca
  refine (ink_Text p x.Key hp (by omega)).bind fun q hq=>?_
  refine (ink_Bool q x.Hidden hq (by omega)).bind fun q hq=>?_
  refine (tX q x.Flights hq (by omega)).bind fun q hq=>?_
  refine (ink_Ints q x.Events hq (by omega)).bind fun q hq=>?_
  exact Gr.some (by show q.out.length≤_; omega)
theorem rows_ex {x : gK} (hk : x.Key.length ≤ 1048576) (he : x.Events.length ≤ 1048576) (e : Int) : ∃ s, Fa2 [x] e = some s := by
  have q : Gr (Fcr (gI.mk []) [x]) 100000000 := by
    unfold Fcr
    simp only [zV]
    refine (tX (b := 0) (gI.mk []) _ (Nat.le_refl _) (by decide)).bind fun q hq => ?_
    unfold Ffn
    refine aJ (fun (i : Nat) (s : List Int) => ((i : Int), s)) [x] (fun i s => s.length ≤ 22 + 30000000 * i) (fun (r : gI) => r.out.length ≤ 100000000) (by simp) ?_ ?_ _ (by simpa using hq)
    · intro kk i s y hy hi hI
      have hi0 : i = 0 := by simp at hi; exact hi
      subst hi0
      have hyx : x = y := by simpa using hy
      subst hyx
      have hI : s.length ≤ 22 + 30000000 * 0 := hI
      obtain ⟨r, h1, h2⟩ := ink_Row (gI.mk s) x hk he hI (by decide)
      refine ⟨r.out, by omega, ?_⟩
      simp only [zV]
      rw [xN hi, yN, xZ hy, zL, h1, zL, eG hi (by simp)]
    · intro kk s hI
      simp only [zV]
      rw [xQ, yM]
      exact ⟨_, rfl, Nat.le_trans hI (by simp)⟩
  obtain ⟨r, h1, h2⟩ := q
  obtain ⟨r2, h3, h4⟩ := tX r e h2 (by decide)
  unfold Fa2 Feg Fdo
  rw [h1, zL, h3]
  exact ⟨_, rfl⟩
end Go.Lf
namespace Go.Lf
open Go.OB
theorem aRl {rows : List gK} (hl : rows.length ≤ 300) (h : ∀ x ∈ rows, 1 ≤ x.Flights) : Fa8 rows 1 = some rows := by
  have key : ∃ s : Int × Int × List gK, Feq 1 (rows.length : Int) (0, -1, 0, rows) = some s ∧ s.1 = 0 ∧ s.2.2 = rows := by
    unfold Feq
    rw [show ((0 : Int), (-1 : Int), (0 : Int), rows) = (fun (i : Nat) (s : Int × Int × List gK) => (s.1, s.2.1, (i : Int), s.2.2)) 0 (0, -1, rows) from rfl]
    refine aJ (fun (i : Nat) (s : Int × Int × List gK) => (s.1, s.2.1, (i : Int), s.2.2)) rows (fun (i : Nat) (s : Int × Int × List gK) => s.1 = 0 ∧ s.2.2 = rows ∧ (s.2.1 = -1 ∨ ∃ q : Nat, s.2.1 = (q : Int) ∧ q < i)) (fun s : Int × Int × List gK => s.1 = 0 ∧ s.2.2 = rows) (by omega) ?_ ?_ (0, -1, rows) ⟨rfl, rfl, .inl rfl⟩
    · rintro k i ⟨c, f, l⟩ x hx hi ⟨h1, h2, h3⟩
      simp only at h1 h2 h3
      subst h1
      subst h2
      have hf := h x (List.mem_of_getElem? hx)
      simp only [zV]
      rcases h3 with rfl | ⟨q, rfl, hq⟩
      · refine ⟨(0, (i : Int), l), ⟨rfl, rfl, .inr ⟨i, rfl, by omega⟩⟩, ?_⟩
        rw [xN hi, yN, xZ hx, zL, decide_eq_false (by omega), yM, decide_eq_true (by decide), yN, zL, yN, zL]
        simp only []
        rw [eG hi (by omega)]
      · obtain ⟨z, hz⟩ : ∃ z, l[q]? = some z := ⟨_, List.getElem?_eq_getElem (by omega)⟩
        rw [xN hi, yN, xZ hx, zL, decide_eq_false (by omega), yM, decide_eq_false (by omega : ¬ (q : Int) < 0), yM, xZ hz, zL, zL]
        cases decide (x.Flights < z.Flights) with
        | true =>
          refine ⟨(0, (i : Int), l), ⟨rfl, rfl, .inr ⟨i, rfl, by omega⟩⟩, ?_⟩
          rw [yN, zL]
          simp only []
          rw [eG hi (by omega)]
        | false =>
          refine ⟨(0, (q : Int), l), ⟨rfl, rfl, .inr ⟨q, rfl, by omega⟩⟩, ?_⟩
          rw [yM, zL]
          simp only []
          rw [eG hi (by omega)]
    · rintro k ⟨c, f, l⟩ ⟨h1, h2, h3⟩
      simp only [zV]
      rw [xQ, yM]
      exact ⟨_, rfl, h1, h2⟩
  obtain ⟨⟨c, f, l⟩, h1, h2, h3⟩ := key
  simp only at h2 h3
  subst h2
  subst h3
  unfold Fa8
  simp only [zV]
  rw [h1, zL]
  simp only []
  rw [decide_eq_false (by decide), yM, zL, yM]
theorem many_R {R:Nat}{l:List gK}(h: ∀x ∈ l,TR R x){x:gK}(hx:x ∈ l):many l=(R:Int):=by
  obtain ⟨i,hi⟩:=List.getElem?_of_mem hx
  obtain ⟨y,hy⟩:=aKn hi (by unfold shn; rw [(h x hx).hi]; rfl)
  unfold many
  rw [hy]
  show (y.Events.length:Int)=_
  rw [(h y (List.mem_of_find?_eq_some hy)).el]
theorem tabF_ok {l:List Flight}{r:Rules}{m:Mask}{b:Int}{rows:List gK}(t:TB l r m b rows):tabF rows=some 0∧Gtb rows:=by
  have hl:=t.t.len t.p
  have hn:=t.n
  have bd: ∀x ∈ rows,(0≤x.Flights∧x.Flights≤300)∧ ∀e ∈ x.Events,0≤e∧e≤1000000000:=fun x hx=>by
    have:=t.t.fl_le hx
    have tx:=t.t.tr x hx
    have:=tx.fl
    exact ⟨⟨by omega,by omega⟩,fun e he=>by have:=tx.eb e he; omega⟩
  refine ⟨?_,⟨by omega,t.t.kd,fun x hx hh=>(by rw [(t.t.tr x hx).hi] at hh; cases hh),fun x hx=>(by have:=(bd x hx).1; omega),fun x hx=>(bd x hx).2,fun x hx _=>(by rw [many_R t.t.tr hx,(t.t.tr x hx).el])⟩⟩
  unfold tabF
  rw [decide_eq_false (by omega)]
  have key: ∀(q:List gK) (i:Nat),(∀(j:Nat) x,q[j]? =some x→aOh rows (i+j) x=0)→eH (fun i x=>if aOh rows i x=0 then none else some (some (aOh rows i x))) (some 0) q i=some 0:=by
    intro q
    induction q with
    | nil=>intro i _; rfl
    | cons x q ih=>
      intro i hq
      have h0:=hq 0 x rfl
      rw [Nat.add_zero] at h0
      rw [eH,if_pos h0]
      exact ih (i+1) fun j y hy=>by have:=hq (j+1) y (by simpa using hy); rwa [show i+(j+1)=i+1+j by omega] at this
  rw [if_neg Bool.false_ne_true]
  refine key rows 0 fun j x hx=>?_
  rw [Nat.zero_add]
  have hm:=List.mem_of_getElem? hx
  have tx:=t.t.tr x hm
  unfold aOh
  have a1:aX (fun _ y=>decide (y.Key=x.Key)) (rows.take j) 0=false:=by
    cases h:aX (fun _ y=>decide (y.Key=x.Key)) (rows.take j) 0 with
    | false=>rfl
    | true=>
      obtain ⟨i,y,hy,e⟩:=(pY _ _ _).1 h
      rw [List.getElem?_take] at hy
      split at hy
      · exact absurd (of_decide_eq_true e) (t.t.kd i j y x hy hx (by assumption))
      · cases hy
  have a2:badF x=false:=by unfold badF; rw [tx.hi]; rfl
  have a3:badW x=false:=by
    unfold badW
    rw [Bool.or_eq_false_iff]
    refine ⟨aKh.2 (by have:=(bd x hm).1; omega),?_⟩
    cases h:aX (fun _ y=>wr y) x.Events 0 with
    | false=>rfl
    | true=>
      obtain ⟨i,y,hy,e⟩:=(pY _ _ _).1 h
      rw [aKh.2 ((bd x hm).2 y (List.mem_of_getElem? hy))] at e
      cases e
  rw [a1,a2,a3,many_R t.t.tr hm,tx.el]
  simp
theorem aOv {R : Nat} {l : List gK} (h : ∀ x ∈ l, TR R x) : ∀ i, i ≤ l.length → (rE l i).1 = aU ((l.take i).map gK.Flights) ∧ ((rE l i).2.2 = decide (i = 0)) ∧ (i = 0 → (rE l i).2.1 = []) ∧ (0 < i → (rE l i).2.1.length = R ∧ ∀ k, (rE l i).2.1.getD k 0 = aU ((l.take i).map fun x => x.Events.getD k 0))
  | 0, _ => ⟨rfl, rfl, fun _ => rfl, fun h => absurd h (by omega)⟩
  | i + 1, hi => by
    obtain ⟨h1, h2, h3, h4⟩ := aOv h i (by omega)
    have hx : l[i]? = some l[i] := List.getElem?_eq_getElem hi
    have tx := h l[i] (List.getElem_mem hi)
    rw [aDt hx]
    unfold aPe
    rw [tx.hi, if_neg Bool.false_ne_true]
    refine ⟨?_, ?_, fun e => by omega, fun _ => ?_⟩
    · show (rE l i).1 + _ = _
      rw [h1, aO hx, List.map_append, nN]; simp [aU]
    · show false = _
      rw [decide_eq_false (by omega)]
    · show (if (rE l i).2.2 = true then _ else _ : List Int).length = R ∧ ∀ k, (if (rE l i).2.2 = true then _ else _ : List Int).getD k 0 = _
      rw [h2]
      by_cases c : i = 0
      · subst c
        rw [decide_eq_true rfl, if_pos rfl]
        exact ⟨tx.el, fun k => by rw [aO hx, List.map_append, nN]; simp [aU]⟩
      · rw [decide_eq_false c, if_neg Bool.false_ne_true]
        obtain ⟨a1, a2⟩ := h4 (by omega)
        refine ⟨wU a1 tx.el, fun k => ?_⟩
        show (wQ _ _).getD k 0 = _
        rw [aGx a1 tx.el, a2, aO hx, List.map_append, nN]; simp [aU]
theorem getD_ext {a b:List Int}{R:Nat}(h1:a.length=R)(h2:b.length=R)(h: ∀k,a.getD k 0=b.getD k 0):a=b:=by
  apply List.ext_getElem (by omega)
  intro i h3 h4
  have:=h i
  rw [List.getD_eq_getElem?_getD,List.getD_eq_getElem?_getD,List.getElem?_eq_getElem h3,List.getElem?_eq_getElem h4] at this
  exact this
theorem kyO_len {f : Flight} (g : Good f) (b : Int) : (kyO f b).length ≤ 30 := by
  unfold kyO Fap
  simp only [zV]
  by_cases c2 : b = 2
  · rw [decide_eq_true c2]
    rcases g.tail with h | h
    · show f.Tail.length ≤ 30; rw [h]; decide
    · exact qH h
  · by_cases c3 : b = 3
    · rw [decide_eq_false c2, decide_eq_true c3]; exact qH g.route
    · by_cases c4 : b = 4
      · rw [decide_eq_false c2, decide_eq_false c3, decide_eq_true c4]
        simp only [yM, yN]
        unfold Fcm Fc0 Fb3
        have := g.day
        rw [if_pos ⟨rfl, by omega, by omega⟩]
        show (Lib.decDigits f.Day.toNat).length ≤ 30
        rw [Lib.decDigits_length]
        have := Lib.nDigits_le20 f.Day.toNat (by omega)
        omega
      · rw [decide_eq_false c2, decide_eq_false c3, decide_eq_false c4]; exact Nat.zero_le _
theorem Total_ok {l : List Flight} {r : Rules} {m : Mask} {b : Int} {rows : List gK} (t : TB l r m b rows) : Fbo rows = some (tot rows, 0) := by
  obtain ⟨h1, h2⟩ := tabF_ok t
  have hl := t.t.len t.p
  have hn := t.n
  have hR := t.gr.l
  have okl : okL aEl rows := ⟨by omega, fun x hx => ?_⟩
  · unfold Fbo
    rw [aFy rows okl, h1, zL]
    simp only [zV]
    rw [decide_eq_false (by simp), yM, fTotal_L1 h2 fun x hx => by rw [(t.t.tr x hx).el]; omega, zL]
    rfl
  · have tx := t.t.tr x hx
    obtain ⟨f, hf, e⟩ := t.ky x hx
    have := h2.fl x hx
    refine ⟨by rw [e]; have := kyO_len (aLz t.gm (t.gf f hf)) b; unfold okS; omega, trivial, by unfold i64; omega, by rw [tx.el]; omega, fun e he => by have := h2.ev x hx e he; unfold i64; omega⟩
theorem tot_eq {l:List Flight}{r:Rules}{m:Mask}{b:Int}{rows rows':List gK}(t:TB l r m b rows)(u:TB l r m 1 rows')(hl:l≠ []):rows'= [tot rows]:=by
  have hn:0<l.length:=List.length_pos_iff.2 hl
  obtain ⟨s1,s2,s3,s4⟩:=aOv t.t.tr rows.length (Nat.le_refl _)
  have e1:=t.t.sf
  have e2:=u.t.sf
  have q1:0<rows.length:=List.length_pos_iff.2 fun h=>by rw [h] at e1; simp [aU] at e1; omega
  have q2:0<rows'.length:=List.length_pos_iff.2 fun h=>by rw [h] at e2; simp [aU] at e2; omega
  have key: ∀x ∈ rows',x.Key= []:=fun x hx=>by obtain ⟨f,_,e⟩:=u.ky x hx; rw [e]; rfl
  have q3:rows'.length=1:=by
    by_cases c:rows'.length=1
    · exact c
    · exact absurd ((key _ (List.getElem_mem (by omega))).trans (key _ (List.getElem_mem (by omega))).symm) (u.t.kd 0 1 rows'[0] rows'[1] (List.getElem?_eq_getElem (by omega)) (List.getElem?_eq_getElem (by omega)) (by omega))
  obtain ⟨x,hx⟩:=List.length_eq_one_iff.1 q3
  subst hx
  have tx:=u.t.tr x List.mem_cons_self
  have fx:x.Flights=(l.length:Int):=by simpa [aU] using e2
  have ex: ∀k,x.Events.getD k 0=evT r m l l.length k:=fun k=>by have:=u.t.se k; simpa [aU] using this
  rw [List.take_length] at s1 s4
  obtain ⟨s5,s6⟩:=s4 q1
  congr 1
  unfold tot
  obtain ⟨k,h,f,ev⟩:=x
  have hk:k= []:=key _ List.mem_cons_self
  have hh:h=false:=tx.hi
  have hf:f=(l.length:Int):=fx
  subst hk
  subst hh
  subst hf
  rw [s1,t.t.sf]
  congr 1
  exact getD_ext tx.el s5 fun k=>by rw [s6,t.t.se]; exact ex k
theorem law_AddUp (l : List Flight) (r : Rules) (m : Mask) (b : Int) (h : okL (fun x => nP x) l) (hr : aPn r) (hm : aBy m) (_hb : i64 b) : Fea l r m b = some true := by
  have ok : okR r := hr
  have hm1 : aBy (Mask.mk m.Tails m.Days m.Hide m.Grains 1) := ⟨trivial, hm.2.1, hm.2.2.1, hm.2.2.2.1, by show i64 (1 : Int); unfold i64; omega⟩
  unfold Fea
  have hl1 : (Mask.mk m.Tails m.Days m.Hide m.Grains 1).Least = 1 := rfl
  generalize Mask.mk m.Tails m.Days m.Hide m.Grains 1 = m1 at hm1 hl1 ⊢
  by_cases c : aMv l r m1 b = 0
  · obtain ⟨rows, t, n1, -, e1⟩ := aEf h ok hm1 c
    have c1 : aMv l r m1 1 = 0 := by
      unfold aMv at c ⊢
      split at c
      · exact absurd c (by assumption)
      · split at c
        · exact absurd c (by assumption)
        · split at c
          · exact absurd c (by assumption)
          · rename_i x1 x2 x3
            rw [if_neg x1, if_neg x2, if_neg x3, if_pos ⟨by decide, by decide⟩]
    obtain ⟨rows', u, n2, -, e2⟩ := aEf h ok hm1 c1
    rw [e1, e2, hl1, aRl n1 t.p, aRl n2 u.p, zL, zL, zL]
    dsimp only
    simp only [zV]
    rw [Total_ok t]
    simp only [zV, zL]
    rw [decide_eq_false (by simp), yM, yM, zL, yM, zL]
    have hf : (tot rows).Flights = (l.length : Int) := by
      obtain ⟨s1, -⟩ := aOv t.t.tr rows.length (Nat.le_refl _)
      rw [List.take_length, t.t.sf] at s1
      exact s1
    rw [decide_eq_false (by rw [hf]; simp), yM]
    by_cases d : l = []
    · subst d
      have z : rows' = [] := by
        have := u.t.len u.p
        exact List.length_eq_zero_iff.1 (by simpa using this)
      subst z
      simp only [List.length_nil]
      rw [decide_eq_false (by decide), zL, yM, decide_eq_true (by decide), yN, aBo]
      rfl
    · have hn : 0 < l.length := List.length_pos_iff.2 d
      have w := tot_eq t u d
      subst w
      rw [decide_eq_false (by simp only [List.length_singleton]; omega), zL, yM, decide_eq_false (by omega), yM]
      have tx := u.t.tr _ List.mem_cons_self
      have hR := t.gr.l
      obtain ⟨s, hs⟩ := rows_ex (x := tot rows) (by show 0 ≤ _; omega) (by rw [tx.el]; omega) 0
      rw [hs, zL, zL, decide_eq_true rfl, yN, aBo]
      rfl
  · rw [Table_bad h ok hm1 c, zL]
    simp only [zV]
    rw [decide_eq_true c, yN, aBo]; rfl
end Go.Lf
