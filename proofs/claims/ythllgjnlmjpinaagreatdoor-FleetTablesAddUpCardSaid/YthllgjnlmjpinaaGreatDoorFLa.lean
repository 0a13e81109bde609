/- Walks: what each function computes, for every argument; no condition but those that stand in the statements. -/
import Derived.Test.YthllgjnlmjpinaaGreatDoorDNa
import Derived.Test.YthllgjnlmjpinaaGreatDoorPl2
import Derived.Test.YthllgjnlmjpinaaGreatDoorEPa
namespace Go.Lf
section
variable {α β γ σ:Type}
theorem aMa {body:(γ→Option β)→γ→Option β}(enc:Nat→σ→γ)(l:List α)(I:Nat→σ→Prop)(r:β)(hl:l.length≤9223372036854775807)
    (h: ∀k i s x,l[i]? =some x→i<l.length→I i s→ ∃s',I (i+1) s'∧body k (enc i s)=k (enc (i+1) s'))(hx: ∀k s,I l.length s→body k (enc l.length s)=some r)(s:σ)(h0:I 0 s):
    eF body (enc 0 s)=some r:=by
  obtain ⟨r',h1,h2⟩:=aBu enc l I (fun x=>x=r) h (fun k s hI=>⟨r,hx k s hI,rfl⟩) l.length 0 s FU (by omega) (vU hl) h0
  unfold eF
  rw [h1,h2]
end
def lfF (l:List Flight):Option Int:=if decide (300<(l.length:Int)) then some 3 else eH (fun _ f=>if vW f=0 then none else some (some (vW f))) (some 0) l 0
theorem rW (l : List Flight) (h : okL nP l) : Fc6 l = lfF l := by
  unfold Fc6 lfF
  simp only [zV, wK, bT]
  congr 1
  unfold Fes
  refine xY l _ _ h.1 ?_ ?_
  · intro kk i x hx hi
    simp only [zV]
    rw [xN hi, yN, xZ hx, zL, aEe x (h.2 x (List.mem_of_getElem? hx)), zL, eG hi h.1, wI]
    by_cases c : vW x = 0 <;> simp [c]
  · intro kk; simp only [zV]; rw [xQ]; rfl
theorem aLs (l:List Flight): ∃r,lfF l=some r:=by
  unfold lfF
  split
  · exact ⟨_,rfl⟩
  · have: ∀(m:List Flight) (i:Nat),∃r,eH (fun _ f=>if vW f=0 then none else some (some (vW f))) (some 0) m i=some r:=by
      intro m
      induction m with
      | nil=>intro i; exact ⟨_,rfl⟩
      | cons x m ih=>
        intro i
        rw [eH]
        by_cases c:vW x=0
        · simp only [c,if_true]; exact ih (i+1)
        · simp only [c,if_false]; exact ⟨_,rfl⟩
    exact this l 0
theorem lfF_zero {l : List Flight} (h : lfF l = some 0) : l.length ≤ 300 ∧ ∀ f ∈ l, vW f = 0 := by
  unfold lfF at h
  by_cases c : 300 < (l.length : Int)
  · rw [decide_eq_true c, if_pos rfl] at h; cases h
  rw [decide_eq_false c, if_neg Bool.false_ne_true] at h
  refine ⟨by omega, ?_⟩
  have : ∀ (m : List Flight) (i : Nat), eH (fun _ f => if vW f = 0 then none else some (some (vW f))) (some 0) m i = some 0 → ∀ f ∈ m, vW f = 0 := by
    intro m
    induction m with
    | nil => intro i _ f hf; cases hf
    | cons x m ih =>
      intro i hm f hf
      rw [eH] at hm
      by_cases c : vW x = 0
      · simp only [c, if_true] at hm
        rcases List.mem_cons.1 hf with rfl | hf
        · exact c
        · exact ih (i + 1) hm f hf
      · simp only [c, if_false] at hm
        exact absurd (Option.some.inj hm) c
  exact this l 0 h
end Go.Lf
namespace Go.Lf
open Go.OB
theorem aPc (f : Flight) (s : Str) (hl : f.Tracks.length ≤ 9223372036854775807) : Fdb f s = some (f.Tracks.find? fun t => decide (t.Name = s)) := by
  unfold Fdb
  simp only [zV, wK]
  unfold Fe7
  rw [xY f.Tracks (fun _ x => if decide (x.Name = s) = true then some (some (some x)) else none) (some none) hl]
  · have : ∀ (l : List Track) (i : Nat), eH (fun _ x => if decide (x.Name = s) = true then some (some (some x)) else none) (some none) l i = some (l.find? fun t => decide (t.Name = s)) := by
      intro l
      induction l with
      | nil => intro i; rfl
      | cons x l ih =>
        intro i
        rw [eH, List.find?_cons]
        by_cases c : x.Name = s
        · simp [c]
        · simp only [c, decide_false, Bool.false_eq_true, if_false]; exact ih (i + 1)
    exact this _ _
  · intro kk i x hx hi
    simp only [zV]
    rw [xN hi, yN, xZ hx, zL, zL, eG hi hl]
    by_cases c : x.Name = s <;> simp [c, gU]
  · intro kk
    simp only [zV]
    rw [xQ, yM]
def tkO (f:Flight)(s:Str):Track:=(f.Tracks.find? fun t=>decide (t.Name=s)).getD ⟨s,⟨1,[]⟩,0⟩
def tkF (f:Flight)(r:Rules):List Track:=(aT (qF (kG r))).map (tkO f)
theorem aFn (f:Flight)(s:Str):(tkO f s).Name=s:=by
  unfold tkO
  cases e:f.Tracks.find? fun t=>decide (t.Name=s) with
  | none=>rfl
  | some t=>simpa using List.find?_some e
theorem ap56 {α:Type}(p q:List α)(h:p.length+q.length≤1000000):app' 56 p q=some (p++q):=by
  unfold app'
  rw [if_pos ⟨by rw [maxLen_eq]; omega,by omega⟩]
theorem aHg {r:Rules}(g:Gr' r):(aT (qF (kG r))).length≤48000:=by
  rw [aMz]; exact trkN_len g
theorem Tracks_eq {r:Rules}(ok:okR r)(h:chk r=some 0):Fb2 r=some (aT (qF (kG r)),0):=by
  unfold Fb2
  rw [aFi r ok,h,zL]
  simp only [zV]
  rw [decide_eq_false (by simp),yM,aMg (pF ok h),zL]
theorem aIe {r : Rules} (ok : okR r) (h : chk r = some 0) {f : Flight} (hl : f.Tracks.length ≤ 1000) : Fcu f r = some (tkF f r) := by
  have hn := aHg (pF ok h)
  unfold Fcu
  rw [Tracks_eq ok h, zL]
  simp only [zV]
  unfold Fe8 tkF
  generalize aT (qF (kG r)) = l at *
  rw [show (([] : List Track), (0 : Int)) = (fun (i : Nat) => ((l.take i).map (tkO f), (i : Int))) 0 by simp]
  rw [bC (fun (i : Nat) => ((l.take i).map (tkO f), (i : Int))) l (some (l.map (tkO f))) (by omega) ?_ ?_]
  · rfl
  · intro k i x hx hi
    simp only [zV]
    have hs : ((l.take i).map (tkO f)).length ≤ 48000 := by simp; omega
    rw [xN hi, yN, xZ hx, zL, aPc f x (by omega), zL, eG hi (by omega), aO hx, List.map_append]
    have e : tkO f x = (f.Tracks.find? fun t => decide (t.Name = x)).getD ⟨x, ⟨1, []⟩, 0⟩ := rfl
    rw [List.map_singleton, e]
    cases f.Tracks.find? fun t => decide (t.Name = x) with
    | none => simp only [Option.isNone_none, Bool.not_true, yM]; rw [ap56 _ _ (by simp only [List.length_singleton]; omega), zL, zL]; rfl
    | some t => simp only [Option.isNone_some, Bool.not_false, yN]; rw [zL, ap56 _ _ (by simp only [List.length_singleton]; omega), zL, zL]; rfl
  · intro k
    simp only [zV]
    rw [xQ, yM, List.take_length]
theorem ser_zero:sD ⟨1,[]⟩=0:=by decide
theorem tkF_TK {r : Rules} (g : Gr' r) {f : Flight} (ht : aCm f.Tracks = 0) : TK (tkF f r) := by
  have hn := aHg g
  obtain ⟨h1, h2⟩ := aDg (kG r)
  refine ⟨by unfold tkF; rw [List.length_map]; omega, fun i j x y hx hy hij => ?_, fun i x hx => ?_⟩
  · unfold tkF at hx hy
    rw [List.getElem?_map] at hx hy
    obtain ⟨a, ha, rfl⟩ := Option.map_eq_some_iff.1 hx
    obtain ⟨b, hb, rfl⟩ := Option.map_eq_some_iff.1 hy
    rw [aFn, aFn]
    intro e
    subst e
    have hi := (List.getElem?_eq_some_iff.1 ha)
    have hj := (List.getElem?_eq_some_iff.1 hb)
    have := List.pairwise_iff_getElem.1 h1 i j hi.1 hj.1 hij
    rw [hi.2, hj.2, jU] at this
    cases this
  · unfold tkF at hx
    rw [List.getElem?_map] at hx
    obtain ⟨a, ha, rfl⟩ := Option.map_eq_some_iff.1 hx
    unfold tkO
    cases e : f.Tracks.find? fun t => decide (t.Name = a) with
    | none => exact ser_zero
    | some t =>
      obtain ⟨j, hj⟩ := List.getElem?_of_mem (List.mem_of_find?_eq_some e)
      exact ((sV f.Tracks j t).1 (((aDe f.Tracks).1 ht).2 j t hj)).2.2.1
theorem tkF_GB {r:Rules}(ok:okR r)(h:chk r=some 0){f:Flight}(ht:aCm f.Tracks=0):GB r (tkF f r):=by
  have g:=pF ok h
  refine ⟨ok,h,tkF_TK g ht,fun s hs=>?_⟩
  unfold tkF
  rw [List.map_map]
  refine List.mem_map.2 ⟨s,((aDg (kG r)).2 s).2 hs,?_⟩
  exact aFn f s
end Go.Lf
namespace Go.Lf
open Go.OB
theorem aNv {v : List Int} {ph : List Str} {R : Nat} {K : Int} (hv : v.length = R) (hR : R ≤ 1000) (hK : 0 ≤ K ∧ K ≤ 1000000) {op : List Bool} {out : List Int} (h1 : op.length = R) (h2 : out.length = R) (h3 : ∀ x ∈ out, 0 ≤ x ∧ x ≤ K) :
    ∃ q, Fcz v ph op out = some q ∧ q.1.length = R ∧ q.2.length = R ∧ ∀ x ∈ q.2, 0 ≤ x ∧ x ≤ K + 1 := by
  unfold Fcz
  simp only [zV]
  unfold Fer
  rw [show ((0 : Int), op, out) = (fun (i : Nat) (s : List Bool × List Int) => ((i : Int), s.1, s.2)) 0 (op, out) from rfl]
  refine aJ (fun (i : Nat) (s : List Bool × List Int) => ((i : Int), s.1, s.2)) v (fun (i : Nat) (s : List Bool × List Int) => s.1.length = R ∧ s.2.length = R ∧ ∀ (j : Nat) x, s.2[j]? = some x → 0 ≤ x ∧ x ≤ K + 1 ∧ (i ≤ j → x ≤ K)) (fun q : List Bool × List Int => q.1.length = R ∧ q.2.length = R ∧ ∀ x ∈ q.2, 0 ≤ x ∧ x ≤ K + 1) (by omega) ?_ ?_ (op, out) ⟨h1, h2, fun j x hx => ?_⟩
  · rintro k i ⟨o, q⟩ x hx hi ⟨a1, a2, a3⟩
    obtain ⟨b, hb⟩ : ∃ b, o[i]? = some b := ⟨_, List.getElem?_eq_getElem (by simp only at a1; omega)⟩
    obtain ⟨n, hn⟩ : ∃ n, q[i]? = some n := ⟨_, List.getElem?_eq_getElem (by simp only at a2; omega)⟩
    obtain ⟨n1, n2, n3⟩ := a3 i n hn
    have n4 := n3 (Nat.le_refl _)
    simp only at a1 a2
    have so : set' o (i : Int) (decide (x = 2)) = some (o.set i (decide (x = 2))) := by unfold set'; rw [if_pos ⟨by omega, by omega⟩, Int.toNat_natCast]
    have sq : set' q (i : Int) (n + 1) = some (q.set i (n + 1)) := by unfold set'; rw [if_pos ⟨by omega, by omega⟩, Int.toNat_natCast]
    by_cases c : x = 2 ∧ b = false
    · refine ⟨(o.set i (decide (x = 2)), q.set i (n + 1)), ⟨by simp [a1], by simp [a2], fun j y hy => ?_⟩, ?_⟩
      · rw [List.getElem?_set] at hy
        split at hy
        · rename_i e; subst e
          split at hy
          · obtain rfl := Option.some.inj hy; exact ⟨by omega, by omega, fun h => by omega⟩
          · cases hy
        · obtain ⟨y1, y2, y3⟩ := a3 j y hy; exact ⟨y1, y2, fun h => y3 (by omega)⟩
      · simp only [zV]
        rw [xN hi, yN, xZ hx, zL, decide_eq_true c.1, yN, xZ hb, zL, c.2, zL]
        simp only [Bool.not_false, yN]
        rw [xZ hn, zL, wrap_i64 (n := n + 1) (by omega) (by omega), zL, sq, zL, zL, zL]
        rw [decide_eq_true c.1] at so
        rw [so, zL, eG hi (by omega)]
    · refine ⟨(o.set i (decide (x = 2)), q), ⟨by simp [a1], a2, fun j y hy => ?_⟩, ?_⟩
      · obtain ⟨y1, y2, y3⟩ := a3 j y hy; exact ⟨y1, y2, fun h => y3 (by omega)⟩
      · simp only [zV]
        rw [xN hi, yN, xZ hx, zL]
        by_cases d : x = 2
        · have hb1 : b = true := by cases b <;> simp_all
          rw [decide_eq_true d, yN, xZ hb, zL, hb1, zL]
          simp only [Bool.not_true, yM, zL]
          rw [decide_eq_true d] at so
          rw [so, zL, eG hi (by omega)]
        · rw [decide_eq_false d, yM, zL, yM, zL, xZ hb, zL]
          rw [decide_eq_false d] at so
          rw [so, zL, eG hi (by omega)]
  · rintro k ⟨o, q⟩ ⟨a1, a2, a3⟩
    simp only [zV]
    rw [xQ, yM]
    refine ⟨(o, q), rfl, a1, a2, fun x hx => ?_⟩
    obtain ⟨j, hj⟩ := List.getElem?_of_mem hx
    exact ⟨(a3 j x hj).1, (a3 j x hj).2.1⟩
  · have := h3 x (List.mem_of_getElem? hx)
    exact ⟨this.1, by omega, fun _ => this.2⟩
theorem nxt_len (told:List eQ)(w:gZ):(nxt told w).1.length=w.rules.length∧(nxt told w).2.rules.length=w.rules.length:=by
  unfold nxt
  simp only [List.length_map,rG,and_self]
theorem run_rl {r:Rules}{l:List Track}:(vZ r l).rules.length=r.Rules.length:=by show (r.Rules.mapIdx _).length=_; simp
theorem events_ok {r : Rules} (ok : okR r) (h : chk r = some 0) {f : Flight} (g : Good f) : ∃ q, Faw f r = some q ∧ q.length = r.Rules.length ∧ ∀ x ∈ q, 0 ≤ x ∧ x ≤ 20000 := by
  have gr := pF ok h
  have gl := gr.l
  have gb := tkF_GB ok h g.trk
  have w0 := newW_wf gb
  have fr := g.frm
  have sp := g.span
  unfold Faw
  have m1 : make' 8 (r.Rules.length : Int) (0 : Int) = some (List.replicate r.Rules.length 0) := by
    unfold make'; rw [if_pos ⟨by omega, by omega, by omega⟩, Int.toNat_natCast]
  have m2 : make' 1 (r.Rules.length : Int) false = some (List.replicate r.Rules.length false) := by
    unfold make'; rw [if_pos ⟨by omega, by omega, by omega⟩, Int.toNat_natCast]
  simp only [zV]
  rw [m1, zL, m2, zL]
  unfold Fdm Fd1
  rw [aIe ok h (by have := g.many; omega), zL, aJv gb, zL, zL]
  have key : ∃ q, Fee f (tkF f r) (f.From, List.replicate r.Rules.length false, List.replicate r.Rules.length 0, (vZ r (tkF f r)).phases, (vZ r (tkF f r)).tracks, (vZ r (tkF f r)).moves, (vZ r (tkF f r)).rules, (vZ r (tkF f r)).possible) = some q ∧ q.2.length = r.Rules.length ∧ ∀ x ∈ q.2, 0 ≤ x ∧ x ≤ 20000 := by
    unfold Fee
    obtain ⟨n, hn⟩ : ∃ n : Nat, (n : Int) = f.To - f.From + 1 := ⟨(f.To - f.From + 1).toNat, by omega⟩
    have enc0 : (f.From, List.replicate r.Rules.length false, List.replicate r.Rules.length (0 : Int), (vZ r (tkF f r)).phases, (vZ r (tkF f r)).tracks, (vZ r (tkF f r)).moves, (vZ r (tkF f r)).rules, (vZ r (tkF f r)).possible) = (fun (i : Nat) (s : List Bool × List Int × gZ) => (f.From + (i : Int), s.1, s.2.1, s.2.2.phases, s.2.2.tracks, s.2.2.moves, s.2.2.rules, s.2.2.possible)) 0 (List.replicate r.Rules.length false, List.replicate r.Rules.length 0, vZ r (tkF f r)) := by simp
    rw [enc0]
    refine aJ (fun (i : Nat) (s : List Bool × List Int × gZ) => (f.From + (i : Int), s.1, s.2.1, s.2.2.phases, s.2.2.tracks, s.2.2.moves, s.2.2.rules, s.2.2.possible)) (List.replicate n ()) (fun (i : Nat) (s : List Bool × List Int × gZ) => s.1.length = r.Rules.length ∧ s.2.1.length = r.Rules.length ∧ (∀ x ∈ s.2.1, 0 ≤ x ∧ x ≤ (i : Int)) ∧ WfW s.2.2 (tkF f r).length r.Phases.length ∧ s.2.2.rules.length = r.Rules.length) (fun q : List Bool × List Int => q.2.length = r.Rules.length ∧ ∀ x ∈ q.2, 0 ≤ x ∧ x ≤ 20000) (by rw [List.length_replicate]; omega) ?_ ?_ _ ⟨by simp, by simp, by simp, w0, run_rl⟩
    · rintro k i ⟨o, q, w⟩ x - hi ⟨a1, a2, a3, a4, a5⟩
      rw [List.length_replicate] at hi
      simp only at a1 a2 a3 a4 a5
      have tl : ((tkF f r).map (inT (f.From + (i : Int)))).length = (tkF f r).length := List.length_map _
      obtain ⟨n1, n2, n3, n4⟩ := next_ok a4 tl
      obtain ⟨⟨o2, q2⟩, e1, e2, e3, e4⟩ := aNv (ph := phL (nxt ((tkF f r).map (inT (f.From + (i : Int)))) w).2.possible (nxt ((tkF f r).map (inT (f.From + (i : Int)))) w).2.phases) (n4.trans a5) (by omega) (K := (i : Int)) (by omega) a1 a2 a3
      refine ⟨(o2, q2, (nxt ((tkF f r).map (inT (f.From + (i : Int)))) w).2), ⟨e2, e3, fun x hx => by have := e4 x hx; omega, n2, by rw [(nxt_len _ _).2, a5]⟩, ?_⟩
      simp only [zV]
      rw [decide_eq_true (by omega : f.From + (i : Int) ≤ f.To), yN]
      unfold Fdp Fen
      rw [inputs_eq _ _ gb.t (by omega) (by omega), zL, zL]
      show gB (gB (Fbl w _) _) _ = _
      rw [n1, zL, zL]
      show gB (Fa4 (nxt ((tkF f r).map (inT (f.From + (i : Int)))) w).2) _ = _
      rw [Phase_eq n2, zL, e1, zL, wrap_i64 (by omega) (by omega)]
      rw [show f.From + (i : Int) + 1 = f.From + ((i + 1 : Nat) : Int) by omega]
    · rintro k ⟨o, q, w⟩ ⟨a1, a2, a3, a4, a5⟩
      rw [List.length_replicate] at *
      simp only [zV]
      rw [decide_eq_false (by omega : ¬ f.From + (n : Int) ≤ f.To), yM]
      exact ⟨_, rfl, a2, fun x hx => by have := a3 x hx; omega⟩
  obtain ⟨q, h1, h2, h3⟩ := key
  rw [h1, zL]
  exact ⟨q.2, rfl, h2, h3⟩
end Go.Lf
namespace Go.Lf
open Go.OB
def aU:List Int→Int
  | []=>0
  | x :: l=>x+aU l
theorem nN: ∀(a b:List Int),aU (a++b)=aU a+aU b
  | [],b=>by simp [aU]
  | x :: a,b=>by rw [List.cons_append,aU,aU,nN a b]; omega
theorem aDu: ∀(l:List Int) (j:Nat) (x y:Int),l[j]? =some x→aU (l.set j y)=aU l - x+y
  | [],j,x,y,h=>by simp at h
  | a :: l,0,x,y,h=>by
    obtain rfl:a=x:=by simpa using h
    rw [List.set_cons_zero,aU,aU]; omega
  | a :: l,j+1,x,y,h=>by rw [List.set_cons_succ,aU,aU,aDu l j x y (by simpa using h)]; omega
theorem aLv: ∀{l:List Int},(∀x ∈ l,0≤x)→0≤aU l∧ ∀x ∈ l,x≤aU l
  | [],_=>⟨by simp [aU],by simp⟩
  | a :: l,h=>by
    obtain ⟨h1,h2⟩:=aLv (l:=l) fun x hx=>h x (List.mem_cons_of_mem _ hx)
    have:=h a List.mem_cons_self
    rw [aU]
    refine ⟨by omega,fun x hx=>?_⟩
    rcases List.mem_cons.1 hx with rfl | hx
    · omega
    · have:=h2 x hx; omega
theorem aMp: ∀{l:List Int},(∀x ∈ l,1≤x)→(l.length:Int)≤aU l
  | [],_=>by simp [aU]
  | a :: l,h=>by
    have h1:=aMp (l:=l) fun x hx=>h x (List.mem_cons_of_mem _ hx)
    have:=h a List.mem_cons_self
    rw [aU,List.length_cons]; omega
def wQ (a b:List Int):List Int:=List.zipWith (· + ·) a b
theorem wU {a b:List Int}{R:Nat}(h1:a.length=R)(h2:b.length=R):(wQ a b).length=R:=by unfold wQ; rw [List.length_zipWith]; omega
theorem aNe {a b:List Int}{k:Nat}{x y:Int}(hx:a[k]? =some x)(hy:b[k]? =some y):(wQ a b)[k]? =some (x+y):=by
  unfold wQ; rw [List.getElem?_zipWith,hx,hy]
theorem aGx {a b:List Int}{R:Nat}(h1:a.length=R)(h2:b.length=R)(k:Nat):(wQ a b).getD k 0=a.getD k 0+b.getD k 0:=by
  simp only [List.getD_eq_getElem?_getD]
  by_cases h:k<R
  · rw [aNe (List.getElem?_eq_getElem (by omega)) (List.getElem?_eq_getElem (by omega)),List.getElem?_eq_getElem (by omega),List.getElem?_eq_getElem (by omega)]; rfl
  · rw [List.getElem?_eq_none (by rw [wU h1 h2]; omega),List.getElem?_eq_none (by omega),List.getElem?_eq_none (by omega)]; rfl
theorem addE_mem {a b:List Int}{n:Int}(h:n ∈ wQ a b): ∃x ∈ a,∃y ∈ b,n=x+y:=by
  obtain ⟨j,hj⟩:=List.getElem?_of_mem h
  unfold wQ at hj
  rw [List.getElem?_zipWith] at hj
  cases ha:a[j]? with
  | none=>rw [ha] at hj; simp at hj
  | some x=>
    cases hb:b[j]? with
    | none=>rw [ha,hb] at hj; simp at hj
    | some y=>
      rw [ha,hb] at hj
      exact ⟨x,List.mem_of_getElem? ha,y,List.mem_of_getElem? hb,(Option.some.inj hj).symm⟩
structure TR (R:Nat)(x:gK):Prop where
  hi:x.Hidden=false
  fl:0≤x.Flights
  el:x.Events.length=R
  eb: ∀e ∈ x.Events,0≤e∧e≤20000 * x.Flights
structure TI (R:Nat)(n:Int)(E:Nat→Int)(l:List gK):Prop where
  kd: ∀(i j:Nat) (x y:gK),l[i]? =some x→l[j]? =some y→i<j→x.Key≠y.Key
  tr: ∀x ∈ l,TR R x
  sf:aU (l.map gK.Flights)=n
  se: ∀k,aU (l.map fun x=>x.Events.getD k 0)=E k
def bump (x:gK)(ev:List Int):gK:=⟨x.Key,x.Hidden,x.Flights+1,wQ x.Events ev⟩
theorem TI.fl_le {R:Nat}{n:Int}{E:Nat→Int}{l:List gK}(h:TI R n E l){x:gK}(hx:x ∈ l):x.Flights≤n:=by
  have:=(aLv (l:=l.map gK.Flights) fun y hy=>by obtain ⟨z,hz,rfl⟩:=List.mem_map.1 hy; exact (h.tr z hz).fl).2 x.Flights (List.mem_map_of_mem hx)
  rwa [h.sf] at this
theorem bump_TI {R : Nat} {n : Int} {E : Nat → Int} {l : List gK} (h : TI R n E l) {j : Nat} {x : gK} (hj : l[j]? = some x) {ev : List Int} (h1 : ev.length = R) (h2 : ∀ e ∈ ev, 0 ≤ e ∧ e ≤ 20000) :
    TI R (n + 1) (fun k => E k + ev.getD k 0) (l.set j (bump x ev)) := by
  have tx := h.tr x (List.mem_of_getElem? hj)
  have get : ∀ {i : Nat} {y : gK}, (l.set j (bump x ev))[i]? = some y → ∃ z, l[i]? = some z ∧ y.Key = z.Key := fun {i y} hy => by
    rw [List.getElem?_set] at hy
    split at hy
    · rename_i e; subst e
      split at hy
      · obtain rfl := Option.some.inj hy; exact ⟨x, hj, rfl⟩
      · cases hy
    · exact ⟨y, hy, rfl⟩
  refine ⟨fun i k y z hy hz hik => ?_, fun y hy => ?_, ?_, fun k => ?_⟩
  · obtain ⟨y', a1, a2⟩ := get hy
    obtain ⟨z', b1, b2⟩ := get hz
    rw [a2, b2]; exact h.kd i k y' z' a1 b1 hik
  · rcases List.mem_or_eq_of_mem_set hy with hy | rfl
    · exact h.tr y hy
    · refine ⟨tx.hi, by have := tx.fl; show 0 ≤ x.Flights + 1; omega, wU tx.el h1, fun e he => ?_⟩
      obtain ⟨a, ha, b, hb, rfl⟩ := addE_mem he
      have := tx.eb a ha; have := h2 b hb
      show _ ∧ _ ≤ 20000 * (x.Flights + 1)
      omega
  · rw [List.map_set, aDu _ j x.Flights _ (by rw [List.getElem?_map, hj]; rfl), h.sf]
    show n - x.Flights + (x.Flights + 1) = _; omega
  · rw [List.map_set, aDu _ j (x.Events.getD k 0) _ (by rw [List.getElem?_map, hj]; rfl), h.se]
    show E k - _ + (wQ x.Events ev).getD k 0 = _
    rw [aGx tx.el h1]; omega
theorem getD_zero (R k:Nat):(List.replicate R (0:Int)).getD k 0=0:=by
  rw [List.getD_eq_getElem?_getD,List.getElem?_replicate]; split<;>rfl
theorem new_TI {R : Nat} {n : Int} {E : Nat → Int} {l : List gK} (h : TI R n E l) {key : Str} (hk : ∀ x ∈ l, x.Key ≠ key) : TI R n E (l ++ [⟨key, false, 0, List.replicate R 0⟩]) := by
  refine ⟨fun i j x y hx hy hij => ?_, fun x hx => ?_, ?_, fun k => ?_⟩
  · have hj := (List.getElem?_eq_some_iff.1 hy).1
    rw [List.length_append, List.length_singleton] at hj
    rw [List.getElem?_append_left (by omega)] at hx
    by_cases c : j < l.length
    · rw [List.getElem?_append_left c] at hy; exact h.kd i j x y hx hy hij
    · rw [List.getElem?_append_right (by omega), show j - l.length = 0 by omega] at hy
      obtain rfl : _ = y := by simpa using hy
      exact hk x (List.mem_of_getElem? hx)
  · rcases List.mem_append.1 hx with hx | hx
    · exact h.tr x hx
    · obtain rfl := List.mem_singleton.1 hx
      exact ⟨rfl, Int.le_refl _, List.length_replicate, fun e he => by rw [(List.mem_replicate.1 he).2]; exact ⟨Int.le_refl _, by show (0 : Int) ≤ 20000 * 0; omega⟩⟩
  · rw [List.map_append, nN, h.sf]; simp [aU]
  · rw [List.map_append, nN, h.se, List.map_singleton, getD_zero]; simp [aU]
theorem tabL2_ok {rows : List gK} {j : Nat} {x : gK} {ev : List Int} {R : Nat} (hj : rows[j]? = some x) (h1 : ev.length = R) (hR : R ≤ 1000) (h2 : x.Events.length = R) (b1 : ∀ e ∈ x.Events, 0 ≤ e ∧ e ≤ 1000000000) (b2 : ∀ e ∈ ev, 0 ≤ e ∧ e ≤ 20000) (mp : List (Str × Int)) :
    Fec (j : Int) mp ev (ev.length : Int) (0, rows) = some (rows.set j ⟨x.Key, x.Hidden, x.Flights, wQ x.Events ev⟩, mp) := by
  have hlt := (List.getElem?_eq_some_iff.1 hj)
  have al := wU h2 h1
  have hj1 := hlt.1
  unfold Fec
  have e0 : ((0 : Int), rows) = (fun (k : Nat) => ((k : Int), rows.set j ⟨x.Key, x.Hidden, x.Flights, (wQ x.Events ev).take k ++ x.Events.drop k⟩)) 0 := by
    show _ = (_, _)
    simp only [List.take_zero, List.nil_append, List.drop_zero]
    rw [← hlt.2, List.set_getElem_self]; rfl
  rw [e0]
  refine bC (fun (k : Nat) => ((k : Int), rows.set j ⟨x.Key, x.Hidden, x.Flights, (wQ x.Events ev).take k ++ x.Events.drop k⟩)) ev _ (by omega) ?_ ?_
  · intro k i y hy hi
    obtain ⟨a, ha⟩ : ∃ a, x.Events[i]? = some a := ⟨_, List.getElem?_eq_getElem (by omega)⟩
    have ga := aNe ha hy
    have tl : ((wQ x.Events ev).take i).length = i := by rw [List.length_take]; omega
    have ed : x.Events.drop i = a :: x.Events.drop (i + 1) := by
      rw [List.drop_eq_getElem_cons (by omega)]
      congr 1
      exact Option.some.inj ((List.getElem?_eq_getElem _).symm.trans ha)
    have q1 := b1 a (List.mem_of_getElem? ha)
    have q2 := b2 y (List.mem_of_getElem? hy)
    simp only [zV]
    rw [xN hi, yN, xZ hy, zL, xZ (i := j) (by rw [List.getElem?_set_self hlt.1]), zL]
    simp only []
    rw [ed, aIk _ _ _ i tl, zL, wrap_i64 (n := a + y) (by omega) (by omega), eG hi (by omega), aJb _ _ _ _ i tl, zL]
    unfold set'
    rw [if_pos ⟨by omega, by rw [List.length_set]; omega⟩, zL, Int.toNat_natCast, List.set_set, aO ga, List.append_assoc]
    rfl
  · intro k
    simp only [zV]
    rw [xQ, yM, List.take_of_length_le (by omega), List.drop_eq_nil_of_le (by omega), List.append_nil]
end Go.Lf
namespace Go.Lf
open Go.OB
def evs (r:Rules)(f:Flight):List Int:=(Faw f r).getD []
theorem evs_ok {r:Rules}(ok:okR r)(h:chk r=some 0){f:Flight}(g:Good f):Faw f r=some (evs r f)∧(evs r f).length=r.Rules.length∧ ∀x ∈ evs r f,0≤x∧x≤20000:=by
  obtain ⟨q,h1,h2,h3⟩:=events_ok ok h g
  have e:evs r f=q:=by unfold evs; rw [h1]; rfl
  rw [e]; exact ⟨h1,h2,h3⟩
def kyO (f:Flight)(b:Int):Str:=(Fap f b).getD []
theorem kyO_ok {f : Flight} (g : Good f) (b : Int) : Fap f b = some (kyO f b) := by
  have key : ∃ s, Fap f b = some s := by
    unfold Fap
    simp only [zV]
    by_cases c2 : b = 2
    · rw [decide_eq_true c2]; exact ⟨_, rfl⟩
    · by_cases c3 : b = 3
      · rw [decide_eq_false c2, decide_eq_true c3]; exact ⟨_, rfl⟩
      · by_cases c4 : b = 4
        · rw [decide_eq_false c2, decide_eq_false c3, decide_eq_true c4]
          simp only [yM, yN]
          unfold Fcm Fc0 Fb3
          have := g.day
          rw [if_pos ⟨rfl, by omega, by omega⟩]
          exact ⟨_, rfl⟩
        · rw [decide_eq_false c2, decide_eq_false c3, decide_eq_false c4]; exact ⟨_, rfl⟩
  obtain ⟨s, hs⟩ := key
  have e : kyO f b = s := by unfold kyO; rw [hs]; rfl
  rw [e]; exact hs
def evT (r:Rules)(m:Mask)(l:List Flight)(i k:Nat):Int:=aU ((l.take i).map fun f=>(evs r (mfl m f)).getD k 0)
theorem evT_next {r:Rules}{m:Mask}{l:List Flight}{i:Nat}{f:Flight}(hf:l[i]? =some f)(k:Nat):evT r m l (i+1) k=evT r m l i k+(evs r (mfl m f)).getD k 0:=by
  unfold evT
  rw [aO hf,List.map_append,nN,List.map_singleton]
  simp [aU]
theorem TI.len {R:Nat}{n:Int}{E:Nat→Int}{l:List gK}(h:TI R n E l)(hp: ∀x ∈ l,1≤x.Flights):(l.length:Int)≤n:=by
  have:=aMp (l:=l.map gK.Flights) fun y hy=>by obtain ⟨z,hz,rfl⟩:=List.mem_map.1 hy; exact hp z hz
  rwa [h.sf,List.length_map] at this
theorem row_pre {R : Nat} {n : Nat} {E : Nat → Int} {rows : List gK} (hn : n ≤ 300) (hR : R ≤ 1000) (h : TI R (n : Int) E rows) (hp : ∀ x ∈ rows, 1 ≤ x.Flights) (key : Str) :
    ∃ (rows' : List gK) (j : Nat) (y : gK), (gB (gQ (!aGe (bW (rows.map gK.Key) 0) key) fun x2085 =>
      gU x2085 (gQ (rows.length : Int) fun x2089 => gQ (aCo (bW (rows.map gK.Key) 0) key x2089) fun x2095 => gQ (R : Int) fun x2098 => gB (make' 8 x2098 (0 : Int)) fun x2103 => gB (app' 56 rows [gK.mk key false 0 x2103]) fun x2121 => some (x2121, x2089, x2095))
        (some (rows, jA (bW (rows.map gK.Key) 0) key 0, bW (rows.map gK.Key) 0))) (fun q => some q)) = some (rows', (j : Int), bW (rows'.map gK.Key) 0) ∧
      rows'[j]? = some y ∧ TI R (n : Int) E rows' ∧ (∀ (q : Nat) x, rows'[q]? = some x → q ≠ j → 1 ≤ x.Flights) ∧ (∀ x ∈ rows', x ∈ rows ∨ x.Key = key) ∧ y.Key = key := by
  have hl := h.len hp
  have ha : aGe (bW (rows.map gK.Key) 0) key = (rows.map gK.Key).any fun x => decide (x = key) := wM key _ 0
  by_cases c : key ∈ rows.map gK.Key
  · obtain ⟨j, h1, h2⟩ := aAn key (rows.map gK.Key) 0 c
    rw [List.getElem?_map] at h2
    obtain ⟨y, hy, rfl⟩ := Option.map_eq_some_iff.1 h2
    refine ⟨rows, j, y, ?_, hy, h, fun q x hx _ => hp x (List.mem_of_getElem? hx), fun x hx => .inl hx, rfl⟩
    have hb : aGe (bW (rows.map gK.Key) 0) y.Key = true := by
      rw [ha, List.any_eq_true]; exact ⟨_, c, decide_eq_true rfl⟩
    simp only [zV]
    rw [hb, h1, Nat.zero_add]
    rfl
  · have hb : aGe (bW (rows.map gK.Key) 0) key = false := by
      rw [ha, List.any_eq_false]
      intro x hx
      simp only [decide_eq_true_eq]
      rintro rfl; exact c hx
    refine ⟨rows ++ [⟨key, false, 0, List.replicate R 0⟩], rows.length, ⟨key, false, 0, List.replicate R 0⟩, ?_, by simp, new_TI h fun x hx e => c (by rw [← e]; exact List.mem_map_of_mem hx), fun q x hx hq => ?_, fun x hx => ?_, rfl⟩
    · simp only [zV]
      rw [hb]
      simp only [Bool.not_false, yN]
      have hm : make' 8 (R : Int) (0 : Int) = some (List.replicate R 0) := by
        unfold make'; rw [if_pos ⟨by omega, by omega, by omega⟩, Int.toNat_natCast]
      rw [hm, zL, ap56 _ _ (by simp only [List.length_singleton]; omega), zL, zL, sO _ _ hb, List.map_append, List.map_singleton, uA, Nat.zero_add, List.length_map]
    · by_cases d : q < rows.length
      · rw [List.getElem?_append_left d] at hx; exact hp x (List.mem_of_getElem? hx)
      · have := (List.getElem?_eq_some_iff.1 hx).1
        rw [List.length_append, List.length_singleton] at this
        omega
    · rcases List.mem_append.1 hx with hx | hx
      · exact .inl hx
      · obtain rfl := List.mem_singleton.1 hx; exact .inr rfl
theorem aLg {l : List Flight} {r : Rules} {m : Mask} (b : Int) (ok : okR r) (h : chk r = some 0) (gm : Gm m) (hh : m.Hide.length ≤ 9223372036854775807) (hl : l.length ≤ 300) (hg : ∀ f ∈ l, Good f) :
    ∃ rows, Fbz l r m b (l.length : Int) ([], 0, ([] : List (Str × Int))) = some rows ∧ TI r.Rules.length (l.length : Int) (evT r m l l.length) rows ∧ (∀ x ∈ rows, 1 ≤ x.Flights) ∧ ∀ x ∈ rows, ∃ f ∈ l, x.Key = kyO (mfl m f) b := by
  have gr := pF ok h
  have hR := gr.l
  unfold Fbz
  rw [show (([] : List gK), (0 : Int), ([] : List (Str × Int))) = (fun (i : Nat) (s : List gK) => (s, (i : Int), bW (s.map gK.Key) 0)) 0 [] from rfl]
  refine aJ (fun (i : Nat) (s : List gK) => (s, (i : Int), bW (s.map gK.Key) 0)) l (fun (i : Nat) (s : List gK) => TI r.Rules.length (i : Int) (evT r m l i) s ∧ (∀ x ∈ s, 1 ≤ x.Flights) ∧ ∀ x ∈ s, ∃ f ∈ l, x.Key = kyO (mfl m f) b) (fun rows : List gK => TI r.Rules.length (l.length : Int) (evT r m l l.length) rows ∧ (∀ x ∈ rows, 1 ≤ x.Flights) ∧ ∀ x ∈ rows, ∃ f ∈ l, x.Key = kyO (mfl m f) b) (by omega) ?_ ?_ [] ⟨⟨by simp, by simp, rfl, fun k => by simp [evT, aU]⟩, by simp, by simp⟩
  · rintro k i s f hf hi ⟨t1, t2, t3⟩
    have gf := hg f (List.mem_of_getElem? hf)
    have gmf := aLz gm gf
    obtain ⟨e1, e2, e3⟩ := evs_ok ok h gmf
    obtain ⟨rows', j, y, p1, p2, p3, p4, p5, p6⟩ := row_pre (by omega) (by omega) t1 t2 (kyO (mfl m f) b)
    have ty := p3.tr y (List.mem_of_getElem? p2)
    have yl := p3.fl_le (List.mem_of_getElem? p2)
    have yf := ty.fl
    have hj := (List.getElem?_eq_some_iff.1 p2).1
    refine ⟨rows'.set j (bump y (evs r (mfl m f))), ⟨?_, fun x hx => ?_, fun x hx => ?_⟩, ?_⟩
    · have q := bump_TI p3 p2 e2 e3
      have e : (fun k => evT r m l i k + (evs r (mfl m f)).getD k 0) = evT r m l (i + 1) := funext fun k => (evT_next hf k).symm
      rw [e] at q
      exact q
    · obtain ⟨q, hq⟩ := List.getElem?_of_mem hx
      by_cases c : j = q
      · subst c
        rw [List.getElem?_set_self hj] at hq
        obtain rfl := Option.some.inj hq; show 1 ≤ y.Flights + 1; omega
      · rw [List.getElem?_set_ne c] at hq; exact p4 q x hq (Ne.symm c)
    · rcases List.mem_or_eq_of_mem_set hx with hx | rfl
      · rcases p5 x hx with hx | e
        · exact t3 x hx
        · exact ⟨f, List.mem_of_getElem? hf, e⟩
      · exact ⟨f, List.mem_of_getElem? hf, p6⟩
    · simp only [zV] at p1 ⊢
      rw [xN hi, yN, xZ hf, zL, masked_eq f m gm (okt_of gf) hh, zL, kyO_ok gmf b, zL]
      have p1' : (gU (!aGe (bW (s.map gK.Key) 0) (kyO (mfl m f) b)) (gB (make' 8 (r.Rules.length : Int) (0 : Int)) fun x2103 => gB (app' 56 s [gK.mk (kyO (mfl m f) b) false 0 x2103]) fun x2121 => some (x2121, (s.length : Int), aCo (bW (s.map gK.Key) 0) (kyO (mfl m f) b) (s.length : Int))) (some (s, jA (bW (s.map gK.Key) 0) (kyO (mfl m f) b) 0, bW (s.map gK.Key) 0))) = some (rows', (j : Int), bW (rows'.map gK.Key) 0) := by
        rw [← p1]
        generalize (gU (!aGe (bW (s.map gK.Key) 0) (kyO (mfl m f) b)) _ _) = z
        cases z <;> rfl
      rw [p1', zL]
      simp only []
      rw [xZ p2, zL, wrap_i64 (n := y.Flights + 1) (by omega) (by omega), e1, zL]
      have st : set' rows' (j : Int) ⟨y.Key, y.Hidden, y.Flights + 1, y.Events⟩ = some (rows'.set j ⟨y.Key, y.Hidden, y.Flights + 1, y.Events⟩) := by
        unfold set'; rw [if_pos ⟨by omega, by omega⟩, Int.toNat_natCast]
      rw [st, zL]
      rw [tabL2_ok (j := j) (x := ⟨y.Key, y.Hidden, y.Flights + 1, y.Events⟩) (R := r.Rules.length) (by rw [List.getElem?_set_self hj]) e2 (by omega) ty.el (fun e he => by have := ty.eb e he; omega) e3, zL]
      simp only []
      rw [List.set_set, eG hi (by omega)]
      have ek : (rows'.set j (bump y (evs r (mfl m f)))).map gK.Key = rows'.map gK.Key := by
        rw [List.map_set]
        apply List.ext_getElem?
        intro q
        rw [List.getElem?_set]
        split
        · rename_i c; subst c
          rw [List.getElem?_map, p2]
          simp [bump, hj]
        · rfl
      show k (_, _, _) = k (_, _, _)
      rw [ek]
      rfl
  · rintro k s ⟨t1, t2, t3⟩
    simp only [zV]
    rw [xQ, yM]
    exact ⟨s, rfl, t1, t2, t3⟩
end Go.Lf
namespace Go.Lf
open Go.OB
def hdn (x:gK):gK:=⟨x.Key,true,0,[]⟩
def cntH:List gK→Nat
  | []=>0
  | x :: l=>(if x.Hidden=true then 1 else 0)+cntH l
def okRow (least:Int)(x:gK):Prop:=(x.Hidden=true∧x.Flights=0∧x.Events= [])∨(x.Hidden=false∧least≤x.Flights)
structure HI (n:Nat)(least:Int)(i:Nat)(s:Int×Int×List gK):Prop where
  l:s.2.2.length=n
  c:s.1=(cntH s.2.2:Int)
  a: ∀(j:Nat) (x:gK),s.2.2[j]? =some x→(j<i→okRow least x)∧(i≤j→x.Hidden=false)
  f:(s.2.1= -1∧ ∀(j:Nat) (x:gK),s.2.2[j]? =some x→j<i→x.Hidden=true)∨ ∃q:Nat,s.2.1=(q:Int)∧q<i∧ ∃x,s.2.2[q]? =some x∧x.Hidden=false
end Go.Lf
namespace Go.Lf
open Go.OB
def aDz (c:Cond):Prop:=okC c
theorem okCond_mk {a0:Int}{a1 a2:Str}{a3 a4 a5:Int}{a6:List Cond}(k0:i64 a0)(k1:okS a1)(k2:okS a2)(k3:i64 a3)(k4:i64 a4)(k5:i64 a5)(k6:a6.length≤9223372036854775807∧ ∀x ∈ a6,aDz x):aDz ⟨a0,a1,a2,a3,a4,a5,a6⟩:=
  (pK _).2 ⟨⟨k0,k1,k2,k3,k4,k5⟩,k6.1,(aAr _).2 k6.2⟩
def aJr (x:mM):Prop:=okS x.From∧okS x.To∧aDz x.When
def aOx (x:kR):Prop:=okS x.Name∧aDz x.When
def aPn (x:Rules):Prop:=okL (fun x=>okS x) x.Phases∧okL (fun x=>aJr x) x.Moves∧okL (fun x=>aOx x) x.Rules
theorem aBo:Fbe=some true:=by decide+kernel
def aMv (l:List Flight)(r:Rules)(m:Mask)(b:Int):Int:=
  if (lfF l).getD 0≠0 then (lfF l).getD 0 else if (chk r).getD 0≠0 then (chk r).getD 0 else if (aIp m).getD 0≠0 then (aIp m).getD 0 else if 1≤b∧b≤4 then 0 else 7
theorem nH {o:Option Int}(h: ∃e,o=some e):o=some (o.getD 0):=by obtain ⟨e,rfl⟩:=h; rfl
theorem Table_bad {l : List Flight} {r : Rules} {m : Mask} {b : Int} (h : okL nP l) (ok : okR r) (hm : aBy m) (he : aMv l r m b ≠ 0) : Fam l r m b = some ([], aMv l r m b) := by
  have e1 := nH (aLs l)
  have e2 := nH (aLt r)
  have e3 := nH (aHm m)
  unfold Fam
  rw [rW l h, aFi r ok, aAd m hm]
  unfold aMv at he ⊢
  generalize (lfF l).getD 0 = a1 at *
  generalize (chk r).getD 0 = a2 at *
  generalize (aIp m).getD 0 = a3 at *
  rw [e1, e2, e3]
  simp only [zV, zL, uF]
  by_cases c1 : a1 = 0
  · by_cases c2 : a2 = 0
    · by_cases c3 : a3 = 0
      · by_cases c4 : 1 ≤ b ∧ b ≤ 4
        · simp [c1, c2, c3, c4] at he
        · have : (decide (1 ≤ b) && decide (b ≤ 4)) = false := by rw [Bool.and_eq_false_iff, decide_eq_false_iff_not, decide_eq_false_iff_not]; omega
          rw [this]
          simp [c1, c2, c3, c4, gU]
      · simp [c1, c2, c3, gU]
    · simp [c1, c2, gU]
  · simp [c1, gU]
structure TB (l:List Flight)(r:Rules)(m:Mask)(b:Int)(rows:List gK):Prop where
  gr:Gr' r
  ck:chk r=some 0
  gm:Gm m
  n:l.length≤300
  gf: ∀f ∈ l,Good f
  t:TI r.Rules.length (l.length:Int) (evT r m l l.length) rows
  p: ∀x ∈ rows,1≤x.Flights
  ky: ∀x ∈ rows,∃f ∈ l,x.Key=kyO (mfl m f) b
theorem aEf {l : List Flight} {r : Rules} {m : Mask} {b : Int} (h : okL nP l) (ok : okR r) (hm : aBy m) (he : aMv l r m b = 0) :
    ∃ rows, TB l r m b rows ∧ rows.length ≤ 300 ∧ Fbz l r m b (l.length : Int) ([], 0, ([] : List (Str × Int))) = some rows ∧ Fam l r m b = gB (Fa8 rows m.Least) fun out => some (out, 0) := by
  have e1 := nH (aLs l)
  have e2 := nH (aLt r)
  have e3 := nH (aHm m)
  unfold aMv at he
  split at he
  · exact absurd he (by assumption)
  split at he
  · exact absurd he (by assumption)
  split at he
  · exact absurd he (by assumption)
  split at he
  · rename_i c1 c2 c3 c4
    simp only [ne_eq, Decidable.not_not] at c1 c2 c3
    rw [c1] at e1
    rw [c2] at e2
    rw [c3] at e3
    obtain ⟨l1, l2⟩ := lfF_zero e1
    have gf : ∀ f ∈ l, Good f := fun f hf => good_of (l2 f hf)
    have g2 := (good2_of e3).toGm
    obtain ⟨rows, h1, h2, h3, h4⟩ := aLg b ok e2 g2 hm.2.2.1.1 l1 gf
    have hl := h2.len h3
    refine ⟨rows, ⟨pF ok e2, e2, g2, l1, gf, h2, h3, h4⟩, by omega, h1, ?_⟩
    unfold Fam
    rw [rW l h, aFi r ok, aAd m hm, e1, e2, e3]
    have q : (decide (1 ≤ b) && decide (b ≤ 4)) = true := by rw [Bool.and_eq_true, decide_eq_true_eq, decide_eq_true_eq]; exact c4
    simp only [zV, zL, uF]
    rw [decide_eq_false (by simp), yM, yM, yM, q, Bool.not_true, yM, h1, zL, decide_eq_false (by omega), yM]
  · exact absurd he (by decide)
end Go.Lf
