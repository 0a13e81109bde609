/- Sorting: insertion and the library's sort yield the same list. -/
import Derived.Test.YtgmikmoapfmedaaGreatDoorFIa
import Derived.Test.YtgmikmoapfmedaaGreatDoorSrt
namespace Go.Lf
section
variable {α β γ σ:Type}
theorem aCc {body:(γ→Option β)→γ→Option β}(enc:Nat→σ→γ)(l:List α)(I:Nat→σ→Prop)(r:β)(hl:l.length≤9223372036854775807)
    (h: ∀k i s x,l[i]? =some x→i<l.length→I i s→ ∃s',I (i+1) s'∧body k (enc i s)=k (enc (i+1) s'))(hx: ∀k s,I l.length s→body k (enc l.length s)=some r)(s:σ)(h0:I 0 s):
    fF body (enc 0 s)=some r:=by
  obtain ⟨r',h1,h2⟩:=wH enc l I (fun x=>x=r) h (fun k s hI=>⟨r,hx k s hI,rfl⟩) l.length 0 s FU (by omega) (tX hl) h0
  unfold fF
  rw [h1,h2]
end
theorem appN {α:Type}{n:Nat}(p q:List α)(h:(p.length+q.length) * n≤140737488355328)(h1:p.length+q.length≤140737488355328):app' n p q=some (p++q):=by
  unfold app'
  rw [if_pos ⟨by rw [Go.OB.maxLen_eq]; omega,h⟩]
def sB:(Int×List Int→Option (List Int))→Int×List Int→Option (List Int):=fun k2509 ⟨g2504,g2505⟩=>
  gG (gJ (decide (0<g2504)) fun x2588=>
  gK x2588
  (gG (at' g2505 g2504) fun x2591=>
  gJ (IntKind.i64.wrap (g2504 - 1)) fun x2602=>
  gG (at' g2505 x2602) fun x2604=>
  gJ (decide (x2591<x2604)) fun x2615=>
  some x2615)
  (some false)) fun g2583=>
  gK g2583
  (gJ (IntKind.i64.wrap (g2504 - 1)) fun x2680=>
  gJ (IntKind.i64.wrap (g2504 - 1)) fun x2682=>
  gG (at' g2505 x2682) fun x2684=>
  gG (at' g2505 g2504) fun x2695=>
  gG (at' g2505 g2504) fun _=>
  gG (set' g2505 g2504 x2684) fun x2717=>
  gG (at' x2717 x2680) fun _=>
  gG (set' x2717 x2680 x2695) fun x2731=>
  gJ (IntKind.i64.wrap (g2504 - 1)) fun x2735=>
  k2509 (x2735,x2731))
  (some g2505)
theorem sB_eq:Fbn=fF sB:=rfl
theorem uH (a:List Int):a= []∨ ∃b y,a=b++ [y]:=by
  rcases List.eq_nil_or_concat a with h | ⟨b,y,h⟩
  · exact .inl h
  · exact .inr ⟨b,y,by simpa using h⟩
theorem aBu : ∀ (n : Nat) (a : List Int) (x : Int) (t : List Int), a.length < n → a.length ≤ 9223372036854775806 →
    ∃ a1 a2, a = a1 ++ a2 ∧ (∀ y ∈ a2, x < y) ∧ (∀ y, a1.getLast? = some y → y ≤ x) ∧ fE sB n ((a.length : Int), a ++ x :: t) = some (a1 ++ x :: (a2 ++ t))
  | 0, a, _, _, h, _ => by omega
  | n + 1, a, x, t, h, hb => by
    rcases uH a with rfl | ⟨b, y, rfl⟩
    · refine ⟨[], [], rfl, by simp, by simp, ?_⟩
      rw [fE]
      rfl
    · have hl : (b ++ [y]).length = b.length + 1 := by simp
      have g1 : ((b ++ [y]) ++ x :: t)[(b ++ [y]).length]? = some x := by rw [List.getElem?_append_right (Nat.le_refl _)]; simp
      have e0 : (b ++ [y]) ++ x :: t = b ++ y :: x :: t := by simp
      have g2 : ((b ++ [y]) ++ x :: t)[b.length]? = some y := by rw [e0, List.getElem?_append_right (Nat.le_refl _)]; simp
      have w1 : IntKind.i64.wrap (((b ++ [y]).length : Int) - 1) = (b.length : Int) := by rw [hl, Go.OB.wrap_i64 (by omega) (by omega)]; omega
      by_cases c : x < y
      · have s1 : set' ((b ++ [y]) ++ x :: t) ((b ++ [y]).length : Int) y = some (b ++ y :: y :: t) := by
          unfold set'
          rw [if_pos ⟨by omega, by simp; omega⟩, Int.toNat_natCast, e0, List.set_append_right _ _ (by omega), hl]
          simp
        have g3 : (b ++ y :: y :: t)[b.length]? = some y := by rw [List.getElem?_append_right (Nat.le_refl _)]; simp
        have s2 : set' (b ++ y :: y :: t) (b.length : Int) x = some (b ++ x :: y :: t) := by
          unfold set'
          rw [if_pos ⟨by omega, by simp; omega⟩, Int.toNat_natCast, List.set_append_right _ _ (Nat.le_refl _)]
          simp
        obtain ⟨a1, a2, h1, h2, h3, h4⟩ := aBu n b x (y :: t) (by omega) (by omega)
        refine ⟨a1, a2 ++ [y], by rw [h1]; simp, fun z hz => ?_, h3, ?_⟩
        · rcases List.mem_append.1 hz with hz | hz
          · exact h2 z hz
          · have := List.mem_singleton.1 hz; subst this; exact c
        · rw [fE]
          unfold sB
          simp only [yA]
          rw [decide_eq_true (show (0 : Int) < ((b ++ [y]).length : Int) by rw [hl]; omega), yR, dZ g1, zM, w1, dZ g2, zM, zM, decide_eq_true c, yR, zM, zM, zM, s1, zM, dZ g3, zM, s2, zM]
          have h4' : fE sB n ((b.length : Int), b ++ x :: y :: t) = some (a1 ++ x :: (a2 ++ y :: t)) := h4
          show fE sB n ((b.length : Int), b ++ x :: y :: t) = _
          rw [h4']; simp
      · refine ⟨b ++ [y], [], by simp, by simp, fun z hz => ?_, ?_⟩
        · rw [List.getLast?_concat] at hz
          cases hz; omega
        · rw [fE]
          unfold sB
          simp only [yA]
          rw [decide_eq_true (show (0 : Int) < ((b ++ [y]).length : Int) by rw [hl]; omega), yR, dZ g1, zM, w1, dZ g2, zM, zM, decide_eq_false c, yY]
          rfl
def Srd (l:List Int):Prop:=l.Pairwise (· ≤ ·)
theorem srd_ins {a1 a2 : List Int} {x : Int} (h : Srd (a1 ++ a2)) (h2 : ∀ y ∈ a2, x < y) (h1 : ∀ y, a1.getLast? = some y → y ≤ x) : Srd (a1 ++ x :: a2) := by
  unfold Srd at *
  rw [List.pairwise_append] at h ⊢
  obtain ⟨p1, p2, p3⟩ := h
  have hx : ∀ y ∈ a1, y ≤ x := by
    rcases uH a1 with rfl | ⟨b, z, rfl⟩
    · simp
    · have hz := h1 z (List.getLast?_concat ..)
      rw [List.pairwise_append] at p1
      intro y hy
      rcases List.mem_append.1 hy with hy | hy
      · have := p1.2.2 y hy z (by simp); omega
      · have := List.mem_singleton.1 hy; subst this; exact hz
  refine ⟨p1, List.pairwise_cons.2 ⟨fun y hy => Int.le_of_lt (h2 y hy), p2⟩, fun y hy z hz => ?_⟩
  rcases List.mem_cons.1 hz with rfl | hz
  · exact hx y hy
  · exact p3 y hy z hz
theorem pO: ∀{l m:List Int},l.Perm m→Srd l→Srd m→l=m
  | [],m,h,_,_=>(List.nil_perm.1 h).symm
  | x :: l,m,h,h1,h2=>by
    cases m with
    | nil=>exact absurd h (by simp)
    | cons y m=>
      unfold Srd at h1 h2
      obtain ⟨p1,p2⟩:=List.pairwise_cons.1 h1
      obtain ⟨q1,q2⟩:=List.pairwise_cons.1 h2
      have e:x=y:=by
        have hx:x ∈ y :: m:=h.mem_iff.1 List.mem_cons_self
        have hy:y ∈ x :: l:=h.mem_iff.2 List.mem_cons_self
        have a1:y≤x:=by
          rcases List.mem_cons.1 hx with rfl | hx
          · exact Int.le_refl _
          · exact q1 x hx
        have a2:x≤y:=by
          rcases List.mem_cons.1 hy with rfl | hy
          · exact Int.le_refl _
          · exact p1 y hy
        omega
      subst e
      rw [pO (List.perm_cons x |>.1 h) p2 q2]
theorem sH (l:List Int):Srd (srt l):=by
  unfold srt Srd
  have:=List.pairwise_mergeSort (le:=fun x y:Int=>decide (x≤y)) (fun a b c h1 h2=>by simp only [decide_eq_true_eq] at *; omega) (fun a b=>by simp only [Bool.or_eq_true,decide_eq_true_eq]; omega) l
  exact this.imp (fun h=>by simpa using h)
theorem pX (l:List Int):(srt l).Perm l:=List.mergeSort_perm _ _
theorem vT (l : List Int) (hl : l.length ≤ 1000000) : Fan l = some (srt l) := by
  unfold Fan
  rw [appN [] l (by simp; omega) (by simp; omega), List.nil_append, zM]
  have key : Fcb (1, l) = some (srt l) := by
    unfold Fcb
    cases l with
    | nil =>
      refine aCc (fun (_ : Nat) (s : List Int) => ((1 : Int), s)) ([] : List Int) (fun _ s => s = []) _ (by simp) (fun k i s x hx => by simp at hx) (fun k s hI => ?_) [] rfl
      subst hI
      have e0 : srt [] = [] := List.eq_nil_of_length_eq_zero (sF [])
      rw [e0]
      simp only [yA]
      rfl
    | cons x0 l0 =>
      refine aCc (fun (i : Nat) (s : List Int) => (((i + 1 : Nat) : Int), s)) l0 (fun i s => s.Perm (x0 :: l0) ∧ ∃ pre suf, s = pre ++ suf ∧ pre.length = i + 1 ∧ Srd pre) _ (by simp at hl; omega) ?_ ?_ (x0 :: l0) ⟨List.Perm.refl _, [x0], l0, rfl, rfl, by simp [Srd]⟩
      · rintro kk i s z hz hi ⟨hp, pre, suf, rfl, h1, h2⟩
        have hlen := hp.length_eq
        simp only [List.length_append, List.length_cons] at hlen hl
        cases suf with
        | nil => simp at hlen; omega
        | cons y suf =>
          obtain ⟨a1, a2, q1, q2, q3, q4⟩ := aBu FU pre y suf (tX (by omega)) (by omega)
          have e : Fbn (((i + 1 : Nat) : Int), pre ++ y :: suf) = some (a1 ++ y :: (a2 ++ suf)) := by
            rw [sB_eq]; unfold fF
            rw [← h1]; exact q4
          refine ⟨a1 ++ y :: (a2 ++ suf), ⟨?_, a1 ++ y :: a2, suf, by simp, ?_, ?_⟩, ?_⟩
          · refine List.Perm.trans ?_ hp
            rw [q1]
            have : (a1 ++ y :: (a2 ++ suf)).Perm (a1 ++ (a2 ++ y :: suf)) := List.Perm.append_left a1 (List.perm_middle.symm)
            simpa using this
          · have := congrArg List.length q1
            simp at this ⊢; omega
          · rw [q1] at h2; exact srd_ins h2 q2 q3
          · simp only [yA]
            rw [decide_eq_true (show ((i + 1 : Nat) : Int) < ((pre ++ y :: suf).length : Int) by simp; omega), yR, e, zM, Go.OB.wrap_i64 (by omega) (by omega)]
            rfl
      · rintro kk s ⟨hp, pre, suf, rfl, h1, h2⟩
        have hlen := hp.length_eq
        simp only [List.length_append, List.length_cons] at hlen
        have hs : suf = [] := List.eq_nil_of_length_eq_zero (by omega)
        subst hs
        simp only [yA]
        have hd : ∀ a b : Int, ¬ a < b → decide (a < b) = false := fun a b h => decide_eq_false h
        rw [hd _ _ (by simp; omega), yY]
        rw [List.append_nil] at hp ⊢
        rw [pO (hp.trans (pX _).symm) h2 (sH _)]
  rw [key, zM]
end Go.Lf
