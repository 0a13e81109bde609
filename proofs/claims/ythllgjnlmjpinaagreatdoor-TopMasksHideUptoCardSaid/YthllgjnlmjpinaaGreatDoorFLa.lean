/- Walks: what each function computes, for every argument; no condition but those that stand in the statements. -/
import Derived.Test.YthllgjnlmjpinaaGreatDoorDNa
import Derived.Test.YthllgjnlmjpinaaGreatDoorPLb
import Derived.Test.YthllgjnlmjpinaaGreatDoorEPa
namespace Go.Lf
def lfF (l:List Flight):Option Int:=if decide (300<(l.length:Int)) then some 3 else dC (fun _ f=>if qA f=0 then none else some (some (qA f))) (some 0) l 0
theorem aG (l : List Flight) (h : okL bJ l) : Fat l = lfF l := by
 unfold Fat lfF;simp only [zM, xX, bU];congr 1;unfold Fg7;refine xU l _ _ h.1 ?_ ?_;intro kk i x hx hi;simp only [zM];rw [xE hi, yF, xQ hx, zI, aIe x (h.2 x (List.mem_of_getElem? hx)), zI, eH hi h.1, wB];by_cases c : qA x = 0 <;> simp [c];intro kk; simp only [zM]; rw [xH]; rfl
theorem aBs (l:List Flight): ∃r,lfF l=some r:=by
  unfold lfF
  split
  · exact ⟨_,rfl⟩
  · have: ∀(m:List Flight) (i:Nat),∃r,dC (fun _ f=>if qA f=0 then none else some (some (qA f))) (some 0) m i=some r:=by
      intro m
      induction m with
      | nil=>intro i; exact ⟨_,rfl⟩
      | cons x m ih=>
        intro i
        rw [dC]
        by_cases c:qA x=0
        · simp only [c,if_true]; exact ih (i+1)
        · simp only [c,if_false]; exact ⟨_,rfl⟩
    exact this l 0
theorem aHl {l : List Flight} (h : lfF l = some 0) : l.length ≤ 300 ∧ ∀ f ∈ l, qA f = 0 := by
  unfold lfF at h
  by_cases c : 300 < (l.length : Int)
  · rw [decide_eq_true c, if_pos rfl] at h; cases h
  rw [decide_eq_false c, if_neg Bool.false_ne_true] at h
  refine ⟨by omega, ?_⟩
  have : ∀ (m : List Flight) (i : Nat), dC (fun _ f => if qA f = 0 then none else some (some (qA f))) (some 0) m i = some 0 → ∀ f ∈ m, qA f = 0 := by
    intro m
    induction m with
    | nil => intro i _ f hf; cases hf
    | cons x m ih =>
      intro i hm f hf
      rw [dC] at hm
      by_cases c : qA x = 0
      · simp only [c, if_true] at hm
        rcases List.mem_cons.1 hf with rfl | hf
        · exact c
        · exact ih (i + 1) hm f hf
      · simp only [c, if_false] at hm
        exact absurd (Option.some.inj hm) c
  exact this l 0 h
end Go.Lf
namespace Go.Lf
open Go.OB
theorem aGi (f : Flight) (s : Str) (hl : f.Tracks.length ≤ 9223372036854775807) : Fa7 f s = some (f.Tracks.find? fun t => decide (t.Name = s)) := by
  unfold Fa7
  simp only [zM, xX]
  unfold Ffy
  rw [xU f.Tracks (fun _ x => if decide (x.Name = s) = true then some (some (some x)) else none) (some none) hl]
  · have : ∀ (l : List Track) (i : Nat), dC (fun _ x => if decide (x.Name = s) = true then some (some (some x)) else none) (some none) l i = some (l.find? fun t => decide (t.Name = s)) := by
      intro l
      induction l with
      | nil => intro i; rfl
      | cons x l ih =>
        intro i
        rw [dC, List.find?_cons]
        by_cases c : x.Name = s
        · simp [c]
        · simp only [c, decide_false, Bool.false_eq_true, if_false]; exact ih (i + 1)
    exact this _ _
  · intro kk i x hx hi
    simp only [zM]
    rw [xE hi, yF, xQ hx, zI, zI, eH hi hl]
    by_cases c : x.Name = s <;> simp [c, gU]
  · intro kk
    simp only [zM]
    rw [xH, yE]
def tkO (f:Flight)(s:Str):Track:=(f.Tracks.find? fun t=>decide (t.Name=s)).getD ⟨s,⟨1,[]⟩,0⟩
def tkF (f:Flight)(r:Rules):List Track:=(kL (tH (jB r))).map (tkO f)
theorem aHr (f:Flight)(s:Str):(tkO f s).Name=s:=by
  unfold tkO
  cases e:f.Tracks.find? fun t=>decide (t.Name=s) with
  | none=>rfl
  | some t=>simpa using List.find?_some e
theorem ap56 {α:Type}(p q:List α)(h:p.length+q.length≤1000000):app' 56 p q=some (p++q):=by
 unfold app';rw [if_pos ⟨by rw [maxLen_eq]; omega,by omega⟩]
theorem aJt {r:Rules}(g:Gr' r):(kL (tH (jB r))).length≤48000:=by
 rw [aOl]; exact trkN_len g
theorem Tracks_eq {r:Rules}(ok:okR r)(h:chk r=some 0):Fd8 r=some (kL (tH (jB r)),0):=by
 unfold Fd8;rw [aBm r ok,h,zI];simp only [zM];rw [decide_eq_false (by simp),yE,aNe (pF ok h),zI]
theorem aLi {r : Rules} (ok : okR r) (h : chk r = some 0) {f : Flight} (hl : f.Tracks.length ≤ 1000) : Fdd f r = some (tkF f r) := by
  have hn := aJt (pF ok h)
  unfold Fdd
  rw [Tracks_eq ok h, zI]
  simp only [zM]
  unfold Fgd tkF
  generalize kL (tH (jB r)) = l at *
  rw [show (([] : List Track), (0 : Int)) = (fun (i : Nat) => ((l.take i).map (tkO f), (i : Int))) 0 by simp]
  rw [bI (fun (i : Nat) => ((l.take i).map (tkO f), (i : Int))) l (some (l.map (tkO f))) (by omega) ?_ ?_]
  · rfl
  · intro k i x hx hi
    simp only [zM]
    have hs : ((l.take i).map (tkO f)).length ≤ 48000 := by simp; omega
    rw [xE hi, yF, xQ hx, zI, aGi f x (by omega), zI, eH hi (by omega), nY hx, List.map_append]
    have e : tkO f x = (f.Tracks.find? fun t => decide (t.Name = x)).getD ⟨x, ⟨1, []⟩, 0⟩ := rfl
    rw [List.map_singleton, e]
    cases f.Tracks.find? fun t => decide (t.Name = x) with
    | none => simp only [Option.isNone_none, Bool.not_true, yE]; rw [ap56 _ _ (by simp only [List.length_singleton]; omega), zI, zI]; rfl
    | some t => simp only [Option.isNone_some, Bool.not_false, yF]; rw [zI, ap56 _ _ (by simp only [List.length_singleton]; omega), zI, zI]; rfl
  · intro k
    simp only [zM]
    rw [xH, yE, List.take_length]
theorem ser_zero:nD ⟨1,[]⟩=0:=by decide
theorem tkF_TK {r : Rules} (g : Gr' r) {f : Flight} (ht : aDi f.Tracks = 0) : TK (tkF f r) := by
  have hn := aJt g
  obtain ⟨h1, h2⟩ := aFn (jB r)
  refine ⟨by unfold tkF; rw [List.length_map]; omega, fun i j x y hx hy hij => ?_, fun i x hx => ?_⟩
  · unfold tkF at hx hy
    rw [List.getElem?_map] at hx hy
    obtain ⟨a, ha, rfl⟩ := Option.map_eq_some_iff.1 hx
    obtain ⟨b, hb, rfl⟩ := Option.map_eq_some_iff.1 hy
    rw [aHr, aHr]
    intro e
    subst e
    have hi := (List.getElem?_eq_some_iff.1 ha)
    have hj := (List.getElem?_eq_some_iff.1 hb)
    have := List.pairwise_iff_getElem.1 h1 i j hi.1 hj.1 hij
    rw [hi.2, hj.2, nR] at this
    cases this
  · unfold tkF at hx
    rw [List.getElem?_map] at hx
    obtain ⟨a, ha, rfl⟩ := Option.map_eq_some_iff.1 hx
    unfold tkO
    cases e : f.Tracks.find? fun t => decide (t.Name = a) with
    | none => exact ser_zero
    | some t =>
      obtain ⟨j, hj⟩ := List.getElem?_of_mem (List.mem_of_find?_eq_some e)
      exact ((pJ f.Tracks j t).1 (((wZ f.Tracks).1 ht).2 j t hj)).2.2.1
theorem tkF_GB {r:Rules}(ok:okR r)(h:chk r=some 0){f:Flight}(ht:aDi f.Tracks=0):GB r (tkF f r):=by
 have g:=pF ok h;refine ⟨ok,h,tkF_TK g ht,fun s hs=>?_⟩;unfold tkF;rw [List.map_map];refine List.mem_map.2 ⟨s,((aFn (jB r)).2 s).2 hs,?_⟩;exact aHr f s
end Go.Lf
namespace Go.Lf
open Go.OB
theorem aQb {v : List Int} {ph : List Str} {R : Nat} {K : Int} (hv : v.length = R) (hR : R ≤ 1000) (hK : 0 ≤ K ∧ K ≤ 1000000) {op : List Bool} {out : List Int} (h1 : op.length = R) (h2 : out.length = R) (h3 : ∀ x ∈ out, 0 ≤ x ∧ x ≤ K) :
    ∃ q, Fdo v ph op out = some q ∧ q.1.length = R ∧ q.2.length = R ∧ ∀ x ∈ q.2, 0 ≤ x ∧ x ≤ K + 1 := by
 unfold Fdo;simp only [zM];unfold Fg5;rw [show ((0 : Int), op, out) = (fun (i : Nat) (s : List Bool × List Int) => ((i : Int), s.1, s.2)) 0 (op, out) from rfl];refine dS (fun (i : Nat) (s : List Bool × List Int) => ((i : Int), s.1, s.2)) v (fun (i : Nat) (s : List Bool × List Int) => s.1.length = R ∧ s.2.length = R ∧ ∀ (j : Nat) x, s.2[j]? = some x → 0 ≤ x ∧ x ≤ K + 1 ∧ (i ≤ j → x ≤ K)) (fun q : List Bool × List Int => q.1.length = R ∧ q.2.length = R ∧ ∀ x ∈ q.2, 0 ≤ x ∧ x ≤ K + 1) (by omega) ?_ ?_ (op, out) ⟨h1, h2, fun j x hx => ?_⟩;rintro k i ⟨o, q⟩ x hx hi ⟨a1, a2, a3⟩;obtain ⟨b, hb⟩ : ∃ b, o[i]? = some b := ⟨_, List.getElem?_eq_getElem (by simp only at a1; omega)⟩;obtain ⟨n, hn⟩ : ∃ n, q[i]? = some n := ⟨_, List.getElem?_eq_getElem (by simp only at a2; omega)⟩;obtain ⟨n1, n2, n3⟩ := a3 i n hn;have n4 := n3 (Nat.le_refl _);simp only at a1 a2;have so : set' o (i : Int) (decide (x = 2)) = some (o.set i (decide (x = 2))) := by unfold set'; rw [if_pos ⟨by omega, by omega⟩, Int.toNat_natCast]
 have sq : set' q (i : Int) (n + 1) = some (q.set i (n + 1)) := by unfold set'; rw [if_pos ⟨by omega, by omega⟩, Int.toNat_natCast]
 by_cases c : x = 2 ∧ b = false;refine ⟨(o.set i (decide (x = 2)), q.set i (n + 1)), ⟨by simp [a1], by simp [a2], fun j y hy => ?_⟩, ?_⟩;rw [List.getElem?_set] at hy;split at hy;rename_i e; subst e;split at hy;obtain rfl := Option.some.inj hy; exact ⟨by omega, by omega, fun h => by omega⟩;cases hy;obtain ⟨y1, y2, y3⟩ := a3 j y hy; exact ⟨y1, y2, fun h => y3 (by omega)⟩;simp only [zM];rw [xE hi, yF, xQ hx, zI, decide_eq_true c.1, yF, xQ hb, zI, c.2, zI];simp only [Bool.not_false, yF];rw [xQ hn, zI, wrap_i64 (n := n + 1) (by omega) (by omega), zI, sq, zI, zI, zI];rw [decide_eq_true c.1] at so;rw [so, zI, eH hi (by omega)];refine ⟨(o.set i (decide (x = 2)), q), ⟨by simp [a1], a2, fun j y hy => ?_⟩, ?_⟩;obtain ⟨y1, y2, y3⟩ := a3 j y hy; exact ⟨y1, y2, fun h => y3 (by omega)⟩;simp only [zM];rw [xE hi, yF, xQ hx, zI];by_cases d : x = 2;have hb1 : b = true := by cases b <;> simp_all
 rw [decide_eq_true d, yF, xQ hb, zI, hb1, zI];simp only [Bool.not_true, yE, zI];rw [decide_eq_true d] at so;rw [so, zI, eH hi (by omega)];rw [decide_eq_false d, yE, zI, yE, zI, xQ hb, zI];rw [decide_eq_false d] at so;rw [so, zI, eH hi (by omega)];rintro k ⟨o, q⟩ ⟨a1, a2, a3⟩;simp only [zM];rw [xH, yE];refine ⟨(o, q), rfl, a1, a2, fun x hx => ?_⟩;obtain ⟨j, hj⟩ := List.getElem?_of_mem hx;exact ⟨(a3 j x hj).1, (a3 j x hj).2.1⟩;have := h3 x (List.mem_of_getElem? hx);exact ⟨this.1, by omega, fun _ => this.2⟩
theorem nxt_len (told:List dB)(w:fC):(nxt told w).1.length=w.rules.length∧(nxt told w).2.rules.length=w.rules.length:=by
 unfold nxt;simp only [List.length_map,uH,and_self]
theorem run_rl {r:Rules}{l:List Track}:(aCo r l).rules.length=r.Rules.length:=by show (r.Rules.mapIdx _).length=_; simp
theorem events_ok {r : Rules} (ok : okR r) (h : chk r = some 0) {f : Flight} (g : Good f) : ∃ q, Fa6 f r = some q ∧ q.length = r.Rules.length ∧ ∀ x ∈ q, 0 ≤ x ∧ x ≤ 20000 := by
  have gr := pF ok h
  have gl := gr.l
  have gb := tkF_GB ok h g.trk
  have w0 := newW_wf gb
  have fr := g.frm
  have sp := g.span
  unfold Fa6
  have m1 : make' 8 (r.Rules.length : Int) (0 : Int) = some (List.replicate r.Rules.length 0) := by
    unfold make'; rw [if_pos ⟨by omega, by omega, by omega⟩, Int.toNat_natCast]
  have m2 : make' 1 (r.Rules.length : Int) false = some (List.replicate r.Rules.length false) := by
    unfold make'; rw [if_pos ⟨by omega, by omega, by omega⟩, Int.toNat_natCast]
  simp only [zM]
  rw [m1, zI, m2, zI]
  unfold Fe4 Ffr
  rw [aLi ok h (by have := g.many; omega), zI, aNz gb, zI, zI]
  have key : ∃ q, Ffj f (tkF f r) (f.From, List.replicate r.Rules.length false, List.replicate r.Rules.length 0, (aCo r (tkF f r)).phases, (aCo r (tkF f r)).tracks, (aCo r (tkF f r)).moves, (aCo r (tkF f r)).rules, (aCo r (tkF f r)).possible) = some q ∧ q.2.length = r.Rules.length ∧ ∀ x ∈ q.2, 0 ≤ x ∧ x ≤ 20000 := by
    unfold Ffj
    obtain ⟨n, hn⟩ : ∃ n : Nat, (n : Int) = f.To - f.From + 1 := ⟨(f.To - f.From + 1).toNat, by omega⟩
    have enc0 : (f.From, List.replicate r.Rules.length false, List.replicate r.Rules.length (0 : Int), (aCo r (tkF f r)).phases, (aCo r (tkF f r)).tracks, (aCo r (tkF f r)).moves, (aCo r (tkF f r)).rules, (aCo r (tkF f r)).possible) = (fun (i : Nat) (s : List Bool × List Int × fC) => (f.From + (i : Int), s.1, s.2.1, s.2.2.phases, s.2.2.tracks, s.2.2.moves, s.2.2.rules, s.2.2.possible)) 0 (List.replicate r.Rules.length false, List.replicate r.Rules.length 0, aCo r (tkF f r)) := by simp
    rw [enc0]
    refine dS (fun (i : Nat) (s : List Bool × List Int × fC) => (f.From + (i : Int), s.1, s.2.1, s.2.2.phases, s.2.2.tracks, s.2.2.moves, s.2.2.rules, s.2.2.possible)) (List.replicate n ()) (fun (i : Nat) (s : List Bool × List Int × fC) => s.1.length = r.Rules.length ∧ s.2.1.length = r.Rules.length ∧ (∀ x ∈ s.2.1, 0 ≤ x ∧ x ≤ (i : Int)) ∧ WfW s.2.2 (tkF f r).length r.Phases.length ∧ s.2.2.rules.length = r.Rules.length) (fun q : List Bool × List Int => q.2.length = r.Rules.length ∧ ∀ x ∈ q.2, 0 ≤ x ∧ x ≤ 20000) (by rw [List.length_replicate]; omega) ?_ ?_ _ ⟨by simp, by simp, by simp, w0, run_rl⟩
    · rintro k i ⟨o, q, w⟩ x - hi ⟨a1, a2, a3, a4, a5⟩
      rw [List.length_replicate] at hi
      simp only at a1 a2 a3 a4 a5
      have tl : ((tkF f r).map (inT (f.From + (i : Int)))).length = (tkF f r).length := List.length_map _
      obtain ⟨n1, n2, n3, n4⟩ := next_ok a4 tl
      obtain ⟨⟨o2, q2⟩, e1, e2, e3, e4⟩ := aQb (ph := phL (nxt ((tkF f r).map (inT (f.From + (i : Int)))) w).2.possible (nxt ((tkF f r).map (inT (f.From + (i : Int)))) w).2.phases) (n4.trans a5) (by omega) (K := (i : Int)) (by omega) a1 a2 a3
      refine ⟨(o2, q2, (nxt ((tkF f r).map (inT (f.From + (i : Int)))) w).2), ⟨e2, e3, fun x hx => by have := e4 x hx; omega, n2, by rw [(nxt_len _ _).2, a5]⟩, ?_⟩
      simp only [zM]
      rw [decide_eq_true (by omega : f.From + (i : Int) ≤ f.To), yF]
      unfold Fei Fen
      rw [inputs_eq _ _ gb.t (by omega) (by omega), zI, zI]
      show gG (gG (Fb6 w _) _) _ = _
      rw [n1, zI, zI]
      show gG (Fbt (nxt ((tkF f r).map (inT (f.From + (i : Int)))) w).2) _ = _
      rw [Phase_eq n2, zI, e1, zI, wrap_i64 (by omega) (by omega)]
      rw [show f.From + (i : Int) + 1 = f.From + ((i + 1 : Nat) : Int) by omega]
    · rintro k ⟨o, q, w⟩ ⟨a1, a2, a3, a4, a5⟩
      rw [List.length_replicate] at *
      simp only [zM]
      rw [decide_eq_false (by omega : ¬ f.From + (n : Int) ≤ f.To), yE]
      exact ⟨_, rfl, a2, fun x hx => by have := a3 x hx; omega⟩
  obtain ⟨q, h1, h2, h3⟩ := key
  rw [h1, zI]
  exact ⟨q.2, rfl, h2, h3⟩
end Go.Lf
namespace Go.Lf
open Go.OB
def nK:List Int→Int
  | []=>0
  | x :: l=>x+nK l
theorem aCc: ∀(a b:List Int),nK (a++b)=nK a+nK b
  | [],b=>by simp [nK]
  | x :: a,b=>by rw [List.cons_append,nK,nK,aCc a b]; omega
theorem aGq: ∀(l:List Int) (j:Nat) (x y:Int),l[j]? =some x→nK (l.set j y)=nK l - x+y
  | [],j,x,y,h=>by simp at h
  | a :: l,0,x,y,h=>by
    obtain rfl:a=x:=by simpa using h
    rw [List.set_cons_zero,nK,nK]; omega
  | a :: l,j+1,x,y,h=>by rw [List.set_cons_succ,nK,nK,aGq l j x y (by simpa using h)]; omega
theorem aPy: ∀{l:List Int},(∀x ∈ l,0≤x)→0≤nK l∧ ∀x ∈ l,x≤nK l
  | [],_=>⟨by simp [nK],by simp⟩
  | a :: l,h=>by
    obtain ⟨h1,h2⟩:=aPy (l:=l) fun x hx=>h x (List.mem_cons_of_mem _ hx)
    have:=h a List.mem_cons_self
    rw [nK]
    refine ⟨by omega,fun x hx=>?_⟩
    rcases List.mem_cons.1 hx with rfl | hx
    · omega
    · have:=h2 x hx; omega
theorem aOf: ∀{l:List Int},(∀x ∈ l,1≤x)→(l.length:Int)≤nK l
  | [],_=>by simp [nK]
  | a :: l,h=>by
    have h1:=aOf (l:=l) fun x hx=>h x (List.mem_cons_of_mem _ hx)
    have:=h a List.mem_cons_self
    rw [nK,List.length_cons]; omega
def aDt (a b:List Int):List Int:=List.zipWith (· + ·) a b
theorem aIj {a b:List Int}{R:Nat}(h1:a.length=R)(h2:b.length=R):(aDt a b).length=R:=by unfold aDt; rw [List.length_zipWith]; omega
theorem aPc {a b:List Int}{k:Nat}{x y:Int}(hx:a[k]? =some x)(hy:b[k]? =some y):(aDt a b)[k]? =some (x+y):=by
 unfold aDt; rw [List.getElem?_zipWith,hx,hy]
theorem addE_getD {a b:List Int}{R:Nat}(h1:a.length=R)(h2:b.length=R)(k:Nat):(aDt a b).getD k 0=a.getD k 0+b.getD k 0:=by
 simp only [List.getD_eq_getElem?_getD];by_cases h:k<R;rw [aPc (List.getElem?_eq_getElem (by omega)) (List.getElem?_eq_getElem (by omega)),List.getElem?_eq_getElem (by omega),List.getElem?_eq_getElem (by omega)]; rfl;rw [List.getElem?_eq_none (by rw [aIj h1 h2]; omega),List.getElem?_eq_none (by omega),List.getElem?_eq_none (by omega)]; rfl
theorem addE_mem {a b:List Int}{n:Int}(h:n ∈ aDt a b): ∃x ∈ a,∃y ∈ b,n=x+y:=by
  obtain ⟨j,hj⟩:=List.getElem?_of_mem h
  unfold aDt at hj
  rw [List.getElem?_zipWith] at hj
  cases ha:a[j]? with
  | none=>rw [ha] at hj; simp at hj
  | some x=>
    cases hb:b[j]? with
    | none=>rw [ha,hb] at hj; simp at hj
    | some y=>
      rw [ha,hb] at hj
      exact ⟨x,List.mem_of_getElem? ha,y,List.mem_of_getElem? hb,(Option.some.inj hj).symm⟩
structure TR (R:Nat)(x:gV):Prop where
  hi:x.Hidden=false
  fl:0≤x.Flights
  el:x.Events.length=R
  eb: ∀e ∈ x.Events,0≤e∧e≤20000 * x.Flights
structure TI (R:Nat)(n:Int)(E:Nat→Int)(l:List gV):Prop where
  kd: ∀(i j:Nat) (x y:gV),l[i]? =some x→l[j]? =some y→i<j→x.Key≠y.Key
  tr: ∀x ∈ l,TR R x
  sf:nK (l.map gV.Flights)=n
  se: ∀k,nK (l.map fun x=>x.Events.getD k 0)=E k
def bump (x:gV)(ev:List Int):gV:=⟨x.Key,x.Hidden,x.Flights+1,aDt x.Events ev⟩
theorem TI.fl_le {R:Nat}{n:Int}{E:Nat→Int}{l:List gV}(h:TI R n E l){x:gV}(hx:x ∈ l):x.Flights≤n:=by
 have:=(aPy (l:=l.map gV.Flights) fun y hy=>by obtain ⟨z,hz,rfl⟩:=List.mem_map.1 hy; exact (h.tr z hz).fl).2 x.Flights (List.mem_map_of_mem hx);rwa [h.sf] at this
theorem bump_TI {R : Nat} {n : Int} {E : Nat → Int} {l : List gV} (h : TI R n E l) {j : Nat} {x : gV} (hj : l[j]? = some x) {ev : List Int} (h1 : ev.length = R) (h2 : ∀ e ∈ ev, 0 ≤ e ∧ e ≤ 20000) :
    TI R (n + 1) (fun k => E k + ev.getD k 0) (l.set j (bump x ev)) := by
  have tx := h.tr x (List.mem_of_getElem? hj)
  have get : ∀ {i : Nat} {y : gV}, (l.set j (bump x ev))[i]? = some y → ∃ z, l[i]? = some z ∧ y.Key = z.Key := fun {i y} hy => by
    rw [List.getElem?_set] at hy
    split at hy
    · rename_i e; subst e
      split at hy
      · obtain rfl := Option.some.inj hy; exact ⟨x, hj, rfl⟩
      · cases hy
    · exact ⟨y, hy, rfl⟩
  refine ⟨fun i k y z hy hz hik => ?_, fun y hy => ?_, ?_, fun k => ?_⟩
  · obtain ⟨y', a1, a2⟩ := get hy
    obtain ⟨z', b1, b2⟩ := get hz
    rw [a2, b2]; exact h.kd i k y' z' a1 b1 hik
  · rcases List.mem_or_eq_of_mem_set hy with hy | rfl
    · exact h.tr y hy
    · refine ⟨tx.hi, by have := tx.fl; show 0 ≤ x.Flights + 1; omega, aIj tx.el h1, fun e he => ?_⟩
      obtain ⟨a, ha, b, hb, rfl⟩ := addE_mem he
      have := tx.eb a ha; have := h2 b hb
      show _ ∧ _ ≤ 20000 * (x.Flights + 1)
      omega
  · rw [List.map_set, aGq _ j x.Flights _ (by rw [List.getElem?_map, hj]; rfl), h.sf]
    show n - x.Flights + (x.Flights + 1) = _; omega
  · rw [List.map_set, aGq _ j (x.Events.getD k 0) _ (by rw [List.getElem?_map, hj]; rfl), h.se]
    show E k - _ + (aDt x.Events ev).getD k 0 = _
    rw [addE_getD tx.el h1]; omega
theorem getD_zero (R k:Nat):(List.replicate R (0:Int)).getD k 0=0:=by
 rw [List.getD_eq_getElem?_getD,List.getElem?_replicate]; split<;>rfl
theorem new_TI {R : Nat} {n : Int} {E : Nat → Int} {l : List gV} (h : TI R n E l) {key : Str} (hk : ∀ x ∈ l, x.Key ≠ key) : TI R n E (l ++ [⟨key, false, 0, List.replicate R 0⟩]) := by
  refine ⟨fun i j x y hx hy hij => ?_, fun x hx => ?_, ?_, fun k => ?_⟩
  · have hj := (List.getElem?_eq_some_iff.1 hy).1
    rw [List.length_append, List.length_singleton] at hj
    rw [List.getElem?_append_left (by omega)] at hx
    by_cases c : j < l.length
    · rw [List.getElem?_append_left c] at hy; exact h.kd i j x y hx hy hij
    · rw [List.getElem?_append_right (by omega), show j - l.length = 0 by omega] at hy
      obtain rfl : _ = y := by simpa using hy
      exact hk x (List.mem_of_getElem? hx)
  · rcases List.mem_append.1 hx with hx | hx
    · exact h.tr x hx
    · obtain rfl := List.mem_singleton.1 hx
      exact ⟨rfl, Int.le_refl _, List.length_replicate, fun e he => by rw [(List.mem_replicate.1 he).2]; exact ⟨Int.le_refl _, by show (0 : Int) ≤ 20000 * 0; omega⟩⟩
  · rw [List.map_append, aCc, h.sf]; simp [nK]
  · rw [List.map_append, aCc, h.se, List.map_singleton, getD_zero]; simp [nK]
theorem tabL2_ok {rows : List gV} {j : Nat} {x : gV} {ev : List Int} {R : Nat} (hj : rows[j]? = some x) (h1 : ev.length = R) (hR : R ≤ 1000) (h2 : x.Events.length = R) (b1 : ∀ e ∈ x.Events, 0 ≤ e ∧ e ≤ 1000000000) (b2 : ∀ e ∈ ev, 0 ≤ e ∧ e ≤ 20000) (mp : List (Str × Int)) :
    Feo (j : Int) mp ev (ev.length : Int) (0, rows) = some (rows.set j ⟨x.Key, x.Hidden, x.Flights, aDt x.Events ev⟩, mp) := by
  have hlt := (List.getElem?_eq_some_iff.1 hj)
  have al := aIj h2 h1
  have hj1 := hlt.1
  unfold Feo
  have e0 : ((0 : Int), rows) = (fun (k : Nat) => ((k : Int), rows.set j ⟨x.Key, x.Hidden, x.Flights, (aDt x.Events ev).take k ++ x.Events.drop k⟩)) 0 := by
    show _ = (_, _)
    simp only [List.take_zero, List.nil_append, List.drop_zero]
    rw [← hlt.2, List.set_getElem_self]; rfl
  rw [e0]
  refine bI (fun (k : Nat) => ((k : Int), rows.set j ⟨x.Key, x.Hidden, x.Flights, (aDt x.Events ev).take k ++ x.Events.drop k⟩)) ev _ (by omega) ?_ ?_
  · intro k i y hy hi
    obtain ⟨a, ha⟩ : ∃ a, x.Events[i]? = some a := ⟨_, List.getElem?_eq_getElem (by omega)⟩
    have ga := aPc ha hy
    have tl : ((aDt x.Events ev).take i).length = i := by rw [List.length_take]; omega
    have ed : x.Events.drop i = a :: x.Events.drop (i + 1) := by
      rw [List.drop_eq_getElem_cons (by omega)]
      congr 1
      exact Option.some.inj ((List.getElem?_eq_getElem _).symm.trans ha)
    have q1 := b1 a (List.mem_of_getElem? ha)
    have q2 := b2 y (List.mem_of_getElem? hy)
    simp only [zM]
    rw [xE hi, yF, xQ hy, zI, xQ (i := j) (by rw [List.getElem?_set_self hlt.1]), zI]
    simp only []
    rw [ed, aLk _ _ _ i tl, zI, wrap_i64 (n := a + y) (by omega) (by omega), eH hi (by omega), aLs _ _ _ _ i tl, zI]
    unfold set'
    rw [if_pos ⟨by omega, by rw [List.length_set]; omega⟩, zI, Int.toNat_natCast, List.set_set, nY ga, List.append_assoc]
    rfl
  · intro k
    simp only [zM]
    rw [xH, yE, List.take_of_length_le (by omega), List.drop_eq_nil_of_le (by omega), List.append_nil]
end Go.Lf
namespace Go.Lf
open Go.OB
def evs (r:Rules)(f:Flight):List Int:=(Fa6 f r).getD []
theorem evs_ok {r:Rules}(ok:okR r)(h:chk r=some 0){f:Flight}(g:Good f):Fa6 f r=some (evs r f)∧(evs r f).length=r.Rules.length∧ ∀x ∈ evs r f,0≤x∧x≤20000:=by
 obtain ⟨q,h1,h2,h3⟩:=events_ok ok h g;have e:evs r f=q:=by unfold evs; rw [h1]; rfl
 rw [e]; exact ⟨h1,h2,h3⟩
def kyO (f:Flight)(b:Int):Str:=(Fa2 f b).getD []
theorem kyO_ok {f : Flight} (g : Good f) (b : Int) : Fa2 f b = some (kyO f b) := by
  have key : ∃ s, Fa2 f b = some s := by
    unfold Fa2
    simp only [zM]
    by_cases c2 : b = 2
    · rw [decide_eq_true c2]; exact ⟨_, rfl⟩
    · by_cases c3 : b = 3
      · rw [decide_eq_false c2, decide_eq_true c3]; exact ⟨_, rfl⟩
      · by_cases c4 : b = 4
        · rw [decide_eq_false c2, decide_eq_false c3, decide_eq_true c4]
          simp only [yE, yF]
          unfold Fea Fc2 Fdw
          have := g.day
          rw [if_pos ⟨rfl, by omega, by omega⟩]
          exact ⟨_, rfl⟩
        · rw [decide_eq_false c2, decide_eq_false c3, decide_eq_false c4]; exact ⟨_, rfl⟩
  obtain ⟨s, hs⟩ := key
  have e : kyO f b = s := by unfold kyO; rw [hs]; rfl
  rw [e]; exact hs
def evT (r:Rules)(m:Mask)(l:List Flight)(i k:Nat):Int:=nK ((l.take i).map fun f=>(evs r (mfl m f)).getD k 0)
theorem evT_next {r:Rules}{m:Mask}{l:List Flight}{i:Nat}{f:Flight}(hf:l[i]? =some f)(k:Nat):evT r m l (i+1) k=evT r m l i k+(evs r (mfl m f)).getD k 0:=by
 unfold evT;rw [nY hf,List.map_append,aCc,List.map_singleton];simp [nK]
theorem TI.len {R:Nat}{n:Int}{E:Nat→Int}{l:List gV}(h:TI R n E l)(hp: ∀x ∈ l,1≤x.Flights):(l.length:Int)≤n:=by
 have:=aOf (l:=l.map gV.Flights) fun y hy=>by obtain ⟨z,hz,rfl⟩:=List.mem_map.1 hy; exact hp z hz
 rwa [h.sf,List.length_map] at this
theorem row_pre {R : Nat} {n : Nat} {E : Nat → Int} {rows : List gV} (hn : n ≤ 300) (hR : R ≤ 1000) (h : TI R (n : Int) E rows) (hp : ∀ x ∈ rows, 1 ≤ x.Flights) (key : Str) :
    ∃ (rows' : List gV) (j : Nat) (y : gV), (gG (gK (!aIy (aV (rows.map gV.Key) 0) key) fun x2085 =>
      gU x2085 (gK (rows.length : Int) fun x2089 => gK (aFd (aV (rows.map gV.Key) 0) key x2089) fun x2095 => gK (R : Int) fun x2098 => gG (make' 8 x2098 (0 : Int)) fun x2103 => gG (app' 56 rows [gV.mk key false 0 x2103]) fun x2121 => some (x2121, x2089, x2095))
        (some (rows, jX (aV (rows.map gV.Key) 0) key 0, aV (rows.map gV.Key) 0))) (fun q => some q)) = some (rows', (j : Int), aV (rows'.map gV.Key) 0) ∧
      rows'[j]? = some y ∧ TI R (n : Int) E rows' ∧ (∀ (q : Nat) x, rows'[q]? = some x → q ≠ j → 1 ≤ x.Flights) ∧ (∀ x ∈ rows', x ∈ rows ∨ x.Key = key) ∧ y.Key = key := by
  have hl := h.len hp
  have ha : aIy (aV (rows.map gV.Key) 0) key = (rows.map gV.Key).any fun x => decide (x = key) := aCr key _ 0
  by_cases c : key ∈ rows.map gV.Key
  · obtain ⟨j, h1, h2⟩ := aDd key (rows.map gV.Key) 0 c
    rw [List.getElem?_map] at h2
    obtain ⟨y, hy, rfl⟩ := Option.map_eq_some_iff.1 h2
    refine ⟨rows, j, y, ?_, hy, h, fun q x hx _ => hp x (List.mem_of_getElem? hx), fun x hx => .inl hx, rfl⟩
    have hb : aIy (aV (rows.map gV.Key) 0) y.Key = true := by
      rw [ha, List.any_eq_true]; exact ⟨_, c, decide_eq_true rfl⟩
    simp only [zM]
    rw [hb, h1, Nat.zero_add]
    rfl
  · have hb : aIy (aV (rows.map gV.Key) 0) key = false := by
      rw [ha, List.any_eq_false]
      intro x hx
      simp only [decide_eq_true_eq]
      rintro rfl; exact c hx
    refine ⟨rows ++ [⟨key, false, 0, List.replicate R 0⟩], rows.length, ⟨key, false, 0, List.replicate R 0⟩, ?_, by simp, new_TI h fun x hx e => c (by rw [← e]; exact List.mem_map_of_mem hx), fun q x hx hq => ?_, fun x hx => ?_, rfl⟩
    · simp only [zM]
      rw [hb]
      simp only [Bool.not_false, yF]
      have hm : make' 8 (R : Int) (0 : Int) = some (List.replicate R 0) := by
        unfold make'; rw [if_pos ⟨by omega, by omega, by omega⟩, Int.toNat_natCast]
      rw [hm, zI, ap56 _ _ (by simp only [List.length_singleton]; omega), zI, zI, wL _ _ hb, List.map_append, List.map_singleton, aAa, Nat.zero_add, List.length_map]
    · by_cases d : q < rows.length
      · rw [List.getElem?_append_left d] at hx; exact hp x (List.mem_of_getElem? hx)
      · have := (List.getElem?_eq_some_iff.1 hx).1
        rw [List.length_append, List.length_singleton] at this
        omega
    · rcases List.mem_append.1 hx with hx | hx
      · exact .inl hx
      · obtain rfl := List.mem_singleton.1 hx; exact .inr rfl
theorem aNp {l : List Flight} {r : Rules} {m : Mask} (b : Int) (ok : okR r) (h : chk r = some 0) (gm : Gm m) (hh : m.Hide.length ≤ 9223372036854775807) (hl : l.length ≤ 300) (hg : ∀ f ∈ l, Good f) :
    ∃ rows, Fba l r m b (l.length : Int) ([], 0, ([] : List (Str × Int))) = some rows ∧ TI r.Rules.length (l.length : Int) (evT r m l l.length) rows ∧ (∀ x ∈ rows, 1 ≤ x.Flights) ∧ ∀ x ∈ rows, ∃ f ∈ l, x.Key = kyO (mfl m f) b := by
  have gr := pF ok h
  have hR := gr.l
  unfold Fba
  rw [show (([] : List gV), (0 : Int), ([] : List (Str × Int))) = (fun (i : Nat) (s : List gV) => (s, (i : Int), aV (s.map gV.Key) 0)) 0 [] from rfl]
  refine dS (fun (i : Nat) (s : List gV) => (s, (i : Int), aV (s.map gV.Key) 0)) l (fun (i : Nat) (s : List gV) => TI r.Rules.length (i : Int) (evT r m l i) s ∧ (∀ x ∈ s, 1 ≤ x.Flights) ∧ ∀ x ∈ s, ∃ f ∈ l, x.Key = kyO (mfl m f) b) (fun rows : List gV => TI r.Rules.length (l.length : Int) (evT r m l l.length) rows ∧ (∀ x ∈ rows, 1 ≤ x.Flights) ∧ ∀ x ∈ rows, ∃ f ∈ l, x.Key = kyO (mfl m f) b) (by omega) ?_ ?_ [] ⟨⟨by simp, by simp, rfl, fun k => by simp [evT, nK]⟩, by simp, by simp⟩
  · rintro k i s f hf hi ⟨t1, t2, t3⟩
    have gf := hg f (List.mem_of_getElem? hf)
    have gmf := aCw gm gf
    obtain ⟨e1, e2, e3⟩ := evs_ok ok h gmf
    obtain ⟨rows', j, y, p1, p2, p3, p4, p5, p6⟩ := row_pre (by omega) (by omega) t1 t2 (kyO (mfl m f) b)
    have ty := p3.tr y (List.mem_of_getElem? p2)
    have yl := p3.fl_le (List.mem_of_getElem? p2)
    have yf := ty.fl
    have hj := (List.getElem?_eq_some_iff.1 p2).1
    refine ⟨rows'.set j (bump y (evs r (mfl m f))), ⟨?_, fun x hx => ?_, fun x hx => ?_⟩, ?_⟩
    · have q := bump_TI p3 p2 e2 e3
      have e : (fun k => evT r m l i k + (evs r (mfl m f)).getD k 0) = evT r m l (i + 1) := funext fun k => (evT_next hf k).symm
      rw [e] at q
      exact q
    · obtain ⟨q, hq⟩ := List.getElem?_of_mem hx
      by_cases c : j = q
      · subst c
        rw [List.getElem?_set_self hj] at hq
        obtain rfl := Option.some.inj hq; show 1 ≤ y.Flights + 1; omega
      · rw [List.getElem?_set_ne c] at hq; exact p4 q x hq (Ne.symm c)
    · rcases List.mem_or_eq_of_mem_set hx with hx | rfl
      · rcases p5 x hx with hx | e
        · exact t3 x hx
        · exact ⟨f, List.mem_of_getElem? hf, e⟩
      · exact ⟨f, List.mem_of_getElem? hf, p6⟩
    · simp only [zM] at p1 ⊢
      rw [xE hi, yF, xQ hf, zI, tJ f m gm (aHb gf) hh, zI, kyO_ok gmf b, zI]
      have p1' : (gU (!aIy (aV (s.map gV.Key) 0) (kyO (mfl m f) b)) (gG (make' 8 (r.Rules.length : Int) (0 : Int)) fun x2103 => gG (app' 56 s [gV.mk (kyO (mfl m f) b) false 0 x2103]) fun x2121 => some (x2121, (s.length : Int), aFd (aV (s.map gV.Key) 0) (kyO (mfl m f) b) (s.length : Int))) (some (s, jX (aV (s.map gV.Key) 0) (kyO (mfl m f) b) 0, aV (s.map gV.Key) 0))) = some (rows', (j : Int), aV (rows'.map gV.Key) 0) := by
        rw [← p1]
        generalize (gU (!aIy (aV (s.map gV.Key) 0) (kyO (mfl m f) b)) _ _) = z
        cases z <;> rfl
      rw [p1', zI]
      simp only []
      rw [xQ p2, zI, wrap_i64 (n := y.Flights + 1) (by omega) (by omega), e1, zI]
      have st : set' rows' (j : Int) ⟨y.Key, y.Hidden, y.Flights + 1, y.Events⟩ = some (rows'.set j ⟨y.Key, y.Hidden, y.Flights + 1, y.Events⟩) := by
        unfold set'; rw [if_pos ⟨by omega, by omega⟩, Int.toNat_natCast]
      rw [st, zI]
      rw [tabL2_ok (j := j) (x := ⟨y.Key, y.Hidden, y.Flights + 1, y.Events⟩) (R := r.Rules.length) (by rw [List.getElem?_set_self hj]) e2 (by omega) ty.el (fun e he => by have := ty.eb e he; omega) e3, zI]
      simp only []
      rw [List.set_set, eH hi (by omega)]
      have ek : (rows'.set j (bump y (evs r (mfl m f)))).map gV.Key = rows'.map gV.Key := by
        rw [List.map_set]
        apply List.ext_getElem?
        intro q
        rw [List.getElem?_set]
        split
        · rename_i c; subst c
          rw [List.getElem?_map, p2]
          simp [bump, hj]
        · rfl
      show k (_, _, _) = k (_, _, _)
      rw [ek]
      rfl
  · rintro k s ⟨t1, t2, t3⟩
    simp only [zM]
    rw [xH, yE]
    exact ⟨s, rfl, t1, t2, t3⟩
end Go.Lf
namespace Go.Lf
open Go.OB
def hdn (x:gV):gV:=⟨x.Key,true,0,[]⟩
def aAt:List gV→Nat
  | []=>0
  | x :: l=>(if x.Hidden=true then 1 else 0)+aAt l
theorem aTj: ∀l,aAt l≤l.length
  | []=>Nat.le_refl _
  | x :: l=>by
    have:=aTj l
    rw [aAt,List.length_cons]; split<;>omega
theorem aGp: ∀(l:List gV) (j:Nat) (x y:gV),l[j]? =some x→x.Hidden=false→y.Hidden=true→aAt (l.set j y)=aAt l+1
  | [],j,x,y,h,_,_=>by simp at h
  | a :: l,0,x,y,h,hx,hy=>by
    obtain rfl:a=x:=by simpa using h
    rw [List.set_cons_zero,aAt,aAt,hx,hy]; simp; omega
  | a :: l,j+1,x,y,h,hx,hy=>by rw [List.set_cons_succ,aAt,aAt,aGp l j x y (by simpa using h) hx hy]; omega
theorem aMr: ∀{l:List gV},(∀x ∈ l,x.Hidden=true)→aAt l=l.length
  | [],_=>rfl
  | x :: l,h=>by
    rw [aAt,h x List.mem_cons_self,aMr fun y hy=>h y (List.mem_cons_of_mem _ hy),List.length_cons]; simp; omega
theorem aJc: ∀{l:List gV},(∀x ∈ l,x.Hidden=false)→aAt l=0
  | [],_=>rfl
  | x :: l,h=>by
    rw [aAt,h x List.mem_cons_self,aJc fun y hy=>h y (List.mem_cons_of_mem _ hy)]; simp
def aTq (least:Int)(x:gV):Prop:=(x.Hidden=true∧x.Flights=0∧x.Events= [])∨(x.Hidden=false∧least≤x.Flights)
structure HI (n:Nat)(least:Int)(i:Nat)(s:Int×Int×List gV):Prop where
  l:s.2.2.length=n
  c:s.1=(aAt s.2.2:Int)
  a: ∀(j:Nat) (x:gV),s.2.2[j]? =some x→(j<i→aTq least x)∧(i≤j→x.Hidden=false)
  f:(s.2.1= -1∧ ∀(j:Nat) (x:gV),s.2.2[j]? =some x→j<i→x.Hidden=true)∨ ∃q:Nat,s.2.1=(q:Int)∧q<i∧ ∃x,s.2.2[q]? =some x∧x.Hidden=false
theorem hide_L1 {rows : List gV} {least : Int} (hl : rows.length ≤ 300) (h : ∀ x ∈ rows, x.Hidden = false) :
    ∃ s : Int × Int × List gV, Fds least (rows.length : Int) (0, -1, 0, rows) = some s ∧ HI rows.length least rows.length s := by
  unfold Fds
  rw [show ((0 : Int), (-1 : Int), (0 : Int), rows) = (fun (i : Nat) (s : Int × Int × List gV) => (s.1, s.2.1, (i : Int), s.2.2)) 0 (0, -1, rows) from rfl]
  refine dS (fun (i : Nat) (s : Int × Int × List gV) => (s.1, s.2.1, (i : Int), s.2.2)) rows (HI rows.length least) (fun s => HI rows.length least rows.length s) (by omega) ?_ ?_ (0, -1, rows) ⟨rfl, by rw [aJc h]; rfl, fun j x hx => ⟨fun q => by omega, fun _ => h x (List.mem_of_getElem? hx)⟩, .inl ⟨rfl, fun j x _ q => by omega⟩⟩
  · rintro k i ⟨c, f, l⟩ - - hi ⟨h1, h2, h3, h4⟩
    simp only at h1 h2 h3 h4
    have hcl := aTj l
    have hil : i < l.length := by omega
    obtain ⟨x, hx⟩ : ∃ x, l[i]? = some x := ⟨_, List.getElem?_eq_getElem hil⟩
    have xh := (h3 i x hx).2 (Nat.le_refl _)
    by_cases q : x.Flights < least
    · have hs : set' l (i : Int) (gV.mk x.Key true 0 []) = some (l.set i (hdn x)) := by unfold set'; rw [if_pos ⟨by omega, by omega⟩, Int.toNat_natCast]; rfl
      refine ⟨(c + 1, f, l.set i (hdn x)), ⟨by simp [h1], by show c + 1 = _; rw [aGp l i x _ hx xh rfl, h2]; rfl, fun j y hy => ?_, ?_⟩, ?_⟩
      · simp only at hy
        by_cases e : i = j
        · subst e
          rw [List.getElem?_set_self hil] at hy
          obtain rfl := Option.some.inj hy
          exact ⟨fun _ => .inl ⟨rfl, rfl, rfl⟩, fun z => by omega⟩
        · rw [List.getElem?_set_ne e] at hy
          exact ⟨fun z => (h3 j y hy).1 (by omega), fun z => (h3 j y hy).2 (by omega)⟩
      · rcases h4 with ⟨e, a⟩ | ⟨p, e, pi, z, hz, zh⟩
        · refine .inl ⟨e, fun j y hy z => ?_⟩
          simp only at hy
          by_cases e : i = j
          · subst e
            rw [List.getElem?_set_self hil] at hy
            obtain rfl := Option.some.inj hy; rfl
          · rw [List.getElem?_set_ne e] at hy; exact a j y hy (by omega)
        · exact .inr ⟨p, e, by omega, z, by show (l.set i _)[p]? = _; rw [List.getElem?_set_ne (by omega)]; exact hz, zh⟩
      · simp only [zM]
        rw [xE hi, yF, xQ hx, zI, decide_eq_true q, yF, wrap_i64 (n := c + 1) (by omega) (by omega), hs, zI, zI]
        simp only []
        rw [eH hi (by omega)]
    · have nx : ∀ (j : Nat) (y : gV), l[j]? = some y → (j < i + 1 → aTq least y) ∧ (i + 1 ≤ j → y.Hidden = false) := fun j y hy => by
        refine ⟨fun z => ?_, fun z => (h3 j y hy).2 (by omega)⟩
        by_cases e : j = i
        · subst e
          obtain rfl := Option.some.inj (hx.symm.trans hy)
          exact .inr ⟨xh, by omega⟩
        · exact (h3 j y hy).1 (by omega)
      have fin : ∀ g : Bool, ∃ s', HI rows.length least (i + 1) s' ∧ (gG (gU g (some (c, (i : Int), l)) (some (c, f, l))) fun ⟨g478, g479, g480⟩ => k (g478, g479, IntKind.i64.wrap ((i : Int) + 1), g480)) = k (s'.1, s'.2.1, ((i + 1 : Nat) : Int), s'.2.2) ∨ (f = -1 ∧ g = false) := fun g => by
        cases g with
        | true => exact ⟨(c, (i : Int), l), .inl ⟨⟨h1, h2, nx, .inr ⟨i, rfl, by omega, x, hx, xh⟩⟩, by rw [yF, zI]; simp only []; rw [eH hi (by omega)]⟩⟩
        | false =>
          rcases h4 with ⟨e, a⟩ | ⟨p, e, pi, z, hz, zh⟩
          · exact ⟨(c, f, l), .inr ⟨e, rfl⟩⟩
          · exact ⟨(c, f, l), .inl ⟨⟨h1, h2, nx, .inr ⟨p, e, by omega, z, hz, zh⟩⟩, by rw [yE, zI]; simp only []; rw [eH hi (by omega)]⟩⟩
      simp only [zM]
      rw [xE hi, yF, xQ hx, zI, decide_eq_false q, yE]
      rcases h4 with ⟨e, a⟩ | ⟨p, e, pi, z, hz, zh⟩
      · subst e
        obtain ⟨s', ⟨a1, a2⟩ | ⟨_, a⟩⟩ := fin true
        · refine ⟨s', a1, ?_⟩
          rw [← a2]; rfl
        · cases a
      · subst e
        rw [decide_eq_false (by omega : ¬ (p : Int) < 0), yE, xQ hz, zI, zI]
        obtain ⟨s', ⟨a1, a2⟩ | ⟨a, _⟩⟩ := fin (decide (x.Flights < z.Flights))
        · refine ⟨s', a1, ?_⟩
          rw [← a2]
        · omega
  · rintro k ⟨c, f, l⟩ hI
    simp only [zM]
    rw [xH, yE]
    exact ⟨_, rfl, hI⟩
theorem hide_ok {rows : List gV} {least : Int} (hl : rows.length ≤ 300) (h : ∀ x ∈ rows, x.Hidden = false) :
    ∃ out, Fa0 rows least = some out ∧ out.length = rows.length ∧ (∀ x ∈ out, aTq least x) ∧ (aAt out ≠ 1 ∨ out.length = 1) := by
  obtain ⟨⟨c, f, l⟩, e, h1, h2, h3, h4⟩ := hide_L1 (least := least) hl h
  simp only at h1 h2 h3 h4
  have ha : ∀ x ∈ l, aTq least x := fun x hx => by
    obtain ⟨j, hj⟩ := List.getElem?_of_mem hx
    exact (h3 j x hj).1 (by have := (List.getElem?_eq_some_iff.1 hj).1; omega)
  unfold Fa0
  simp only [zM]
  rw [e, zI]
  simp only []
  by_cases d : c = 1
  · rw [decide_eq_true d, yF]
    rcases h4 with ⟨e, a⟩ | ⟨p, e, pi, z, hz, zh⟩
    · subst e
      refine ⟨l, rfl, h1, ha, .inr ?_⟩
      have q := aMr (l := l) fun x hx => by
        obtain ⟨j, hj⟩ := List.getElem?_of_mem hx
        exact a j x hj (by have := (List.getElem?_eq_some_iff.1 hj).1; omega)
      omega
    · subst e
      have pl := (List.getElem?_eq_some_iff.1 hz).1
      have hs : set' l (p : Int) (gV.mk z.Key true 0 []) = some (l.set p (hdn z)) := by unfold set'; rw [if_pos ⟨by omega, by omega⟩, Int.toNat_natCast]; rfl
      rw [decide_eq_true (by omega : (0 : Int) ≤ (p : Int)), zI, yF, xQ hz, zI, hs, zI]
      refine ⟨l.set p (hdn z), rfl, by rw [List.length_set, h1], fun x hx => ?_, .inl ?_⟩
      · rcases List.mem_or_eq_of_mem_set hx with hx | rfl
        · exact ha x hx
        · exact .inl ⟨rfl, rfl, rfl⟩
      · rw [aGp l p z _ hz zh rfl]; omega
  · rw [decide_eq_false d, yE, zI, yE]
    exact ⟨l, rfl, h1, ha, .inl (by omega)⟩
end Go.Lf
namespace Go.Lf
open Go.OB
def aHu (c:Cond):Prop:=okC c
theorem okCond_mk {a0:Int}{a1 a2:Str}{a3 a4 a5:Int}{a6:List Cond}(k0:i64 a0)(k1:okS a1)(k2:okS a2)(k3:i64 a3)(k4:i64 a4)(k5:i64 a5)(k6:a6.length≤9223372036854775807∧ ∀x ∈ a6,aHu x):aHu ⟨a0,a1,a2,a3,a4,a5,a6⟩:=
  (sF _).2 ⟨⟨k0,k1,k2,k3,k4,k5⟩,k6.1,(aCi _).2 k6.2⟩
def aKy (x:pK):Prop:=okS x.From∧okS x.To∧aHu x.When
def aQi (x:kE):Prop:=okS x.Name∧aHu x.When
def aTa (x:Rules):Prop:=okL (fun x=>okS x) x.Phases∧okL (fun x=>aKy x) x.Moves∧okL (fun x=>aQi x) x.Rules
def tabE (l:List Flight)(r:Rules)(m:Mask)(b:Int):Int:=
  if (lfF l).getD 0≠0 then (lfF l).getD 0 else if (chk r).getD 0≠0 then (chk r).getD 0 else if (aAu m).getD 0≠0 then (aAu m).getD 0 else if 1≤b∧b≤4 then 0 else 7
theorem kJ {o:Option Int}(h: ∃e,o=some e):o=some (o.getD 0):=by obtain ⟨e,rfl⟩:=h; rfl
theorem Table_bad {l : List Flight} {r : Rules} {m : Mask} {b : Int} (h : okL bJ l) (ok : okR r) (hm : mD m) (he : tabE l r m b ≠ 0) : Fae l r m b = some ([], tabE l r m b) := by
 have e1 := kJ (aBs l);have e2 := kJ (aHx r);have e3 := kJ (tV m);unfold Fae;rw [aG l h, aBm r ok, qE m hm];unfold tabE at he ⊢;generalize (lfF l).getD 0 = a1 at *;generalize (chk r).getD 0 = a2 at *;generalize (aAu m).getD 0 = a3 at *;rw [e1, e2, e3];simp only [zM, zI, pY];by_cases c1 : a1 = 0;by_cases c2 : a2 = 0;by_cases c3 : a3 = 0;by_cases c4 : 1 ≤ b ∧ b ≤ 4;simp [c1, c2, c3, c4] at he;have : (decide (1 ≤ b) && decide (b ≤ 4)) = false := by rw [Bool.and_eq_false_iff, decide_eq_false_iff_not, decide_eq_false_iff_not]; omega
 rw [this];simp [c1, c2, c3, c4, gU];simp [c1, c2, c3, gU];simp [c1, c2, gU];simp [c1, gU]
structure TB (l:List Flight)(r:Rules)(m:Mask)(b:Int)(rows:List gV):Prop where
  gr:Gr' r
  ck:chk r=some 0
  gm:Gm m
  n:l.length≤300
  gf: ∀f ∈ l,Good f
  t:TI r.Rules.length (l.length:Int) (evT r m l l.length) rows
  p: ∀x ∈ rows,1≤x.Flights
  ky: ∀x ∈ rows,∃f ∈ l,x.Key=kyO (mfl m f) b
theorem aRb {l : List Flight} {r : Rules} {m : Mask} {b : Int} (h : okL bJ l) (ok : okR r) (hm : mD m) (he : tabE l r m b = 0) :
    ∃ rows, TB l r m b rows ∧ rows.length ≤ 300 ∧ Fba l r m b (l.length : Int) ([], 0, ([] : List (Str × Int))) = some rows ∧ Fae l r m b = gG (Fa0 rows m.Least) fun out => some (out, 0) := by
 have e1 := kJ (aBs l);have e2 := kJ (aHx r);have e3 := kJ (tV m);unfold tabE at he;split at he;exact absurd he (by assumption);split at he;exact absurd he (by assumption);split at he;exact absurd he (by assumption);split at he;rename_i c1 c2 c3 c4;simp only [ne_eq, Decidable.not_not] at c1 c2 c3;rw [c1] at e1;rw [c2] at e2;rw [c3] at e3;obtain ⟨l1, l2⟩ := aHl e1;have gf : ∀ f ∈ l, Good f := fun f hf => aCv (l2 f hf);have g2 := (aCa e3).toGm;obtain ⟨rows, h1, h2, h3, h4⟩ := aNp b ok e2 g2 hm.2.2.1.1 l1 gf;have hl := h2.len h3;refine ⟨rows, ⟨pF ok e2, e2, g2, l1, gf, h2, h3, h4⟩, by omega, h1, ?_⟩;unfold Fae;rw [aG l h, aBm r ok, qE m hm, e1, e2, e3];have q : (decide (1 ≤ b) && decide (b ≤ 4)) = true := by rw [Bool.and_eq_true, decide_eq_true_eq, decide_eq_true_eq]; exact c4
 simp only [zM, zI, pY];rw [decide_eq_false (by simp), yE, yE, yE, q, Bool.not_true, yE, h1, zI, decide_eq_false (by omega), yE];exact absurd he (by decide)
end Go.Lf
