/- A region that draws its order and whose operations are of three kinds: those that look at no memory; those that read it (calls that keep what was there among them);
   those that change it. One walk, in one order, serves every order, if what changes memory is tied to what reads it. -/
import Derived.Test.YtnajnkghilemhaaGreatDoorOb
namespace Go.OB
open Go.RowKit

inductive Kd where
  | pure | read | eff
def Kd.isPure : Kd → Bool
  | .pure => true | _ => false
def Kd.isEff : Kd → Bool
  | .eff => true | _ => false

def PureAt (P : Program) (ops : Array Oper) (o : Oper) (v : Value) (a : Act) : Prop := Yields P ops o v a
def readUpon (P : Program) (w : World) (v : Value) : Result Next → Prop
  | .ok (.value u) w' => w' = w ∧ u = v
  | .ok .skip w' => w' = w ∧ v = undef
  | .ok (.enter f args) w' => w' = w ∧ Calls P f args w (fun e w'' => e = .returned v ∧ Sees w w'')
  | _ => False
def ReadAt (P : Program) (ops : Array Oper) (w : World) (o : Oper) (v : Value) (a : Act) : Prop :=
  (Region.wanted o (yielded ops a.tmps) = true ∧ ∀ w', Sees w w' → readUpon P w' v ((execOp a.eval o).run P w')) ∨ (Region.wanted o (yielded ops a.tmps) = false ∧ v = undef)
theorem Sees.refl (w : World) : Sees w w := Below.refl _ _
theorem Sees.trans {a b c : World} (h : Sees a b) (k : Sees b c) : Sees a c := Below.trans h (Below.mono k h.size)

def xOp (P : Program) (ops : Array Oper) (kd : Nat → Kd) (i : Nat) (K : Act → World → Prop) (a : Act) (w : World) : Prop :=
  match ops[i]? with
  | none => False
  | some o => match kd i with
    | .pure => ∃ v, PureAt P ops o v a ∧ K (a.put o.dst v) w
    | .read => ∃ v, ReadAt P ops w o v a ∧ ∀ w', Sees w w' → K (a.put o.dst v) w'
    | .eff => Region.wanted o (yielded ops a.tmps) = true ∧
        ((∃ v w', (execOp a.eval o).run P w = .ok (.value v) w' ∧ K (a.put o.dst v) w') ∨ (∃ w', (execOp a.eval o).run P w = .ok .skip w' ∧ K (a.put o.dst undef) w') ∨
         (∃ f args, (execOp a.eval o).run P w = .ok (.enter f args) w ∧ Calls P f args w fun e w' => ∃ v, e = .returned v ∧ K (a.put o.dst v) w'))

def xOps (P : Program) (ops : Array Oper) (kd : Nat → Kd) (Q : Act → World → Prop) : List Nat → Act → World → Prop
  | [], a, w => Q a w
  | i :: l, a, w => xOp P ops kd i (xOps P ops kd Q l) a w

section
variable {P : Program} {ops : Array Oper} {kd : Nat → Kd} {Q : Act → World → Prop}

theorem xOp_mono {i : Nat} {K K' : Act → World → Prop} (h : ∀ a w, K a w → K' a w) {a : Act} {w : World} (hh : xOp P ops kd i K a w) : xOp P ops kd i K' a w := by
  unfold xOp at *
  cases ho : ops[i]? with
  | none => simp only [ho] at hh
  | some o =>
    simp only [ho] at hh ⊢
    cases hk : kd i <;> simp only [hk] at hh ⊢
    · obtain ⟨v, h1, h2⟩ := hh; exact ⟨v, h1, h _ _ h2⟩
    · obtain ⟨v, h1, h2⟩ := hh; exact ⟨v, h1, fun w' hw => h _ _ (h2 w' hw)⟩
    · obtain ⟨h0, hh⟩ := hh
      refine ⟨h0, ?_⟩
      rcases hh with ⟨v, w', h1, h2⟩ | ⟨w', h1, h2⟩ | ⟨f, args, h1, h2⟩
      · exact .inl ⟨v, w', h1, h _ _ h2⟩
      · exact .inr (.inl ⟨w', h1, h _ _ h2⟩)
      · exact .inr (.inr ⟨f, args, h1, h2.mono fun e w' ⟨v, he, hk⟩ => ⟨v, he, h _ _ hk⟩⟩)

theorem xOp_wp {i : Nat} {K : Act → World → Prop} {Qx : Exit → Act → World → Prop} {a : Act} {w : World} (h : xOp P ops kd i K a w) : wpOp P ops Qx i K a w := by
  unfold xOp at h
  unfold wpOp
  cases ho : ops[i]? with
  | none => simp only [ho] at h
  | some o =>
    simp only [ho] at h ⊢
    cases hk : kd i <;> simp only [hk] at h
    · obtain ⟨v, hy, hK⟩ := h
      have := hy.wpOp (Q := Qx) (w := w) ho hK
      simpa only [wpOp, ho] using this
    · obtain ⟨v, hy, hK⟩ := h
      rcases hy with ⟨hw, hq⟩ | ⟨hw, rfl⟩
      · rw [if_pos hw]
        have := hq w (Sees.refl w)
        refine .inl ?_
        unfold Oper.wp
        generalize (execOp a.eval o).run P w = r at this
        cases r with
        | ok n w' =>
          cases n <;> simp only [readUpon] at this <;> simp only [Oper.upon]
          case value u => obtain ⟨rfl, rfl⟩ := this; exact hK _ (Sees.refl _)
          case skip => obtain ⟨rfl, rfl⟩ := this; exact hK _ (Sees.refl _)
          case enter f args =>
            obtain ⟨rfl, hc⟩ := this
            exact hc.mono fun e w'' ⟨he, hs⟩ => by subst he; exact hK _ hs
        | halt x w' => simp only [readUpon] at this
      · rw [if_neg (by rw [hw]; exact Bool.false_ne_true)]; exact hK _ (Sees.refl _)
    · obtain ⟨h0, h⟩ := h
      rw [if_pos h0]
      refine .inl ?_
      unfold Oper.wp
      rcases h with ⟨v, w', h1, h2⟩ | ⟨w', h1, h2⟩ | ⟨f, args, h1, h2⟩
      · rw [h1]; exact h2
      · rw [h1]; exact h2
      · rw [h1]; exact h2.mono fun e w' ⟨v, he, hk⟩ => by subst he; exact hk

theorem ReadAt.of_same {w : World} {o : Oper} {v : Value} {a a' : Act} (hy : ReadAt P ops w o v a) (he : execOp a'.eval o = execOp a.eval o)
    (hw : Region.wanted o (yielded ops a'.tmps) = Region.wanted o (yielded ops a.tmps)) : ReadAt P ops w o v a' := by
  unfold ReadAt at *; rw [he, hw]; exact hy
theorem ReadAt.sees {w w' : World} {o : Oper} {v : Value} {a : Act} (hy : ReadAt P ops w o v a) (hs : Sees w w') : ReadAt P ops w' o v a := by
  rcases hy with ⟨hw, hv⟩ | h
  · exact .inl ⟨hw, fun w2 h2 => hv w2 (hs.trans h2)⟩
  · exact .inr h

def mayB (ops : Array Oper) (kd : Nat → Kd) (i j : Nat) : Bool :=
  match ops[i]?, ops[j]? with
  | some oi, some oj => oi.apart ops oj && oj.apart ops oi && ((kd i).isPure || (kd j).isPure || (!(kd i).isEff && !(kd j).isEff))
  | _, _ => false

theorem xOp_put {i : Nat} {oi oj : Oper} (hi : ops[i]? = some oi) (hij : oi.apart ops oj = true) (hsi : ∀ cs b, oi.op ≠ .select cs b) {u : Value}
    {K : Act → World → Prop} {a : Act} {w : World} (h : xOp P ops kd i (fun a' w' => K (a'.put oj.dst u) w') a w) : xOp P ops kd i K (a.put oj.dst u) w := by
  obtain ⟨h1, h2, h3⟩ := Oper.apart_spec hij
  have he : execOp (a.put oj.dst u).eval oi = execOp a.eval oi := execOp_put oi hsi a oj.dst u h3
  have hw : Region.wanted oi (yielded ops (a.put oj.dst u).tmps) = Region.wanted oi (yielded ops a.tmps) := wanted_put oi a oj.dst u h3
  have hc : ∀ v, (a.put oj.dst u).put oi.dst v = (a.put oi.dst v).put oj.dst u := fun v => (Act.put_comm a v u h2).symm
  unfold xOp at *
  simp only [hi] at h ⊢
  cases hk : kd i <;> simp only [hk] at h ⊢
  · obtain ⟨v, hy, hK⟩ := h; exact ⟨v, Yields.of_same hy he hw, by rw [hc]; exact hK⟩
  · obtain ⟨v, hy, hK⟩ := h; exact ⟨v, hy.of_same he hw, fun w' hs => by rw [hc]; exact hK w' hs⟩
  · rw [he, hw]
    obtain ⟨h0, h⟩ := h
    refine ⟨h0, ?_⟩
    rcases h with ⟨v, w', h1, h2⟩ | ⟨w', h1, h2⟩ | ⟨f, args, h1, h2⟩
    · exact .inl ⟨v, w', h1, by rw [hc]; exact h2⟩
    · exact .inr (.inl ⟨w', h1, by rw [hc]; exact h2⟩)
    · exact .inr (.inr ⟨f, args, h1, h2.mono fun e w' ⟨v, he, hk⟩ => ⟨v, he, by rw [hc]; exact hk⟩⟩)
theorem xOp_unput {i : Nat} {oi oj : Oper} (hi : ops[i]? = some oi) (hij : oi.apart ops oj = true) (hsi : ∀ cs b, oi.op ≠ .select cs b) {u : Value}
    {K : Act → World → Prop} {a : Act} {w : World} (h : xOp P ops kd i K (a.put oj.dst u) w) : xOp P ops kd i (fun a' w' => K (a'.put oj.dst u) w') a w := by
  obtain ⟨h1, h2, h3⟩ := Oper.apart_spec hij
  have he : execOp (a.put oj.dst u).eval oi = execOp a.eval oi := execOp_put oi hsi a oj.dst u h3
  have hw : Region.wanted oi (yielded ops (a.put oj.dst u).tmps) = Region.wanted oi (yielded ops a.tmps) := wanted_put oi a oj.dst u h3
  have hc : ∀ v, (a.put oj.dst u).put oi.dst v = (a.put oi.dst v).put oj.dst u := fun v => (Act.put_comm a v u h2).symm
  unfold xOp at *
  simp only [hi] at h ⊢
  cases hk : kd i <;> simp only [hk] at h ⊢
  · obtain ⟨v, hy, hK⟩ := h; exact ⟨v, Yields.of_same hy he.symm hw.symm, by rw [← hc]; exact hK⟩
  · obtain ⟨v, hy, hK⟩ := h; exact ⟨v, hy.of_same he.symm hw.symm, fun w' hs => by rw [← hc]; exact hK w' hs⟩
  · rw [he, hw] at h
    obtain ⟨h0, h⟩ := h
    refine ⟨h0, ?_⟩
    rcases h with ⟨v, w', h1, h2⟩ | ⟨w', h1, h2⟩ | ⟨f, args, h1, h2⟩
    · exact .inl ⟨v, w', h1, by rw [← hc]; exact h2⟩
    · exact .inr (.inl ⟨w', h1, by rw [← hc]; exact h2⟩)
    · exact .inr (.inr ⟨f, args, h1, h2.mono fun e w' ⟨v, he, hk⟩ => ⟨v, he, by rw [← hc]; exact hk⟩⟩)

theorem xOp_some {i : Nat} {oi : Oper} (hi : ops[i]? = some oi) {K : Act → World → Prop} {a : Act} {w : World} (h : xOp P ops kd i K a w) : ∃ v w', K (a.put oi.dst v) w' := by
  unfold xOp at h
  simp only [hi] at h
  cases hk : kd i <;> simp only [hk] at h
  · obtain ⟨v, _, hK⟩ := h; exact ⟨v, w, hK⟩
  · obtain ⟨v, _, hK⟩ := h; exact ⟨v, w, hK w (Sees.refl w)⟩
  · rcases h.2 with ⟨v, w', _, h2⟩ | ⟨w', _, h2⟩ | ⟨f, args, _, h2⟩
    · exact ⟨v, w', h2⟩
    · exact ⟨_, w', h2⟩
    · obtain ⟨e, w', fr, ⟨v, _, hk⟩, _⟩ := h2 []; exact ⟨v, w', hk⟩

theorem xSwap {i j : Nat} (hm : mayB ops kd i j = true) (hs : ∀ (k : Nat) (o : Oper) cs b, ops[k]? = some o → o.op ≠ .select cs b) {K : Act → World → Prop} {a : Act} {w : World}
    (h : xOp P ops kd i (xOp P ops kd j K) a w) : xOp P ops kd j (xOp P ops kd i K) a w := by
  unfold mayB at hm
  cases hi : ops[i]? with
  | none => simp [hi] at hm
  | some oi =>
    cases hj : ops[j]? with
    | none => simp [hi, hj] at hm
    | some oj =>
      simp only [hi, hj, Bool.and_eq_true, Bool.or_eq_true, Bool.not_eq_true'] at hm
      obtain ⟨⟨hij, hji⟩, hk⟩ := hm
      have hsi := fun cs b => hs i oi cs b hi
      have hsj := fun cs b => hs j oj cs b hj
      obtain ⟨i1, i2, i3⟩ := Oper.apart_spec hij
      obtain ⟨j1, j2, j3⟩ := Oper.apart_spec hji
      have eP : ∀ {o o' : Oper} {v u : Value} {a : Act}, (∀ cs b, o.op ≠ .select cs b) → (∀ d, o'.dst = some d → d ∉ o.looksAt ops) → PureAt P ops o v (a.put o'.dst u) → PureAt P ops o v a :=
        fun hs h3 hy => Yields.of_same hy (execOp_put _ hs _ _ _ h3).symm (wanted_put _ _ _ _ h3).symm
      have eP' : ∀ {o o' : Oper} {v u : Value} {a : Act}, (∀ cs b, o.op ≠ .select cs b) → (∀ d, o'.dst = some d → d ∉ o.looksAt ops) → PureAt P ops o v a → PureAt P ops o v (a.put o'.dst u) :=
        fun hs h3 hy => Yields.of_same hy (execOp_put _ hs _ _ _ h3) (wanted_put _ _ _ _ h3)
      by_cases hpi : (kd i).isPure = true
      · -- i looks at no memory
        have hki : kd i = .pure := by cases h' : kd i <;> simp_all [Kd.isPure]
        have h0 := h
        unfold xOp at h0
        simp only [hi, hki] at h0
        obtain ⟨v, hy, hK⟩ := h0
        have h1 := xOp_unput hj hji hsj hK
        -- carry 'i yields v' along
        have key : ∀ {K' : Act → World → Prop}, xOp P ops kd j (fun a' w' => K' (a'.put oi.dst v) w') a w → xOp P ops kd j (xOp P ops kd i K') a w := by
          intro K' h2
          unfold xOp at h2 ⊢
          simp only [hj] at h2 ⊢
          have fin : ∀ {u : Value} {w' : World}, K' ((a.put oj.dst u).put oi.dst v) w' → (match ops[i]? with
              | none => False
              | some o => match kd i with
                | .pure => ∃ v, PureAt P ops o v (a.put oj.dst u) ∧ K' ((a.put oj.dst u).put o.dst v) w'
                | .read => ∃ v, ReadAt P ops w' o v (a.put oj.dst u) ∧ ∀ w'', Sees w' w'' → K' ((a.put oj.dst u).put o.dst v) w''
                | .eff => Region.wanted o (yielded ops (a.put oj.dst u).tmps) = true ∧
                    ((∃ v w'', (execOp (a.put oj.dst u).eval o).run P w' = .ok (.value v) w'' ∧ K' ((a.put oj.dst u).put o.dst v) w'') ∨ (∃ w'', (execOp (a.put oj.dst u).eval o).run P w' = .ok .skip w'' ∧ K' ((a.put oj.dst u).put o.dst undef) w'') ∨
                     (∃ f args, (execOp (a.put oj.dst u).eval o).run P w' = .ok (.enter f args) w' ∧ Calls P f args w' fun e w'' => ∃ v, e = .returned v ∧ K' ((a.put oj.dst u).put o.dst v) w''))) := by
            intro u w' hk'
            simp only [hi, hki]
            exact ⟨v, eP' hsi i3 hy, hk'⟩
          cases hkj : kd j <;> simp only [hkj] at h2 ⊢
          · obtain ⟨u, hy2, hk2⟩ := h2; exact ⟨u, hy2, fin hk2⟩
          · obtain ⟨u, hy2, hk2⟩ := h2; exact ⟨u, hy2, fun w' hs' => fin (hk2 w' hs')⟩
          · obtain ⟨hw0, h2⟩ := h2
            refine ⟨hw0, ?_⟩
            rcases h2 with ⟨u, w', h1, h2⟩ | ⟨w', h1, h2⟩ | ⟨f, args, h1, h2⟩
            · exact .inl ⟨u, w', h1, fin h2⟩
            · exact .inr (.inl ⟨w', h1, fin h2⟩)
            · exact .inr (.inr ⟨f, args, h1, h2.mono fun e w' ⟨u, he, hk⟩ => ⟨u, he, fin hk⟩⟩)
        exact key h1
      · by_cases hpj : (kd j).isPure = true
        · -- j looks at no memory
          have hkj : kd j = .pure := by cases h' : kd j <;> simp_all [Kd.isPure]
          obtain ⟨v0, w0, h0⟩ := xOp_some hi h
          unfold xOp at h0
          simp only [hj, hkj] at h0
          obtain ⟨u, hy, _⟩ := h0
          have hy0 : PureAt P ops oj u a := eP hsj j3 hy
          -- whatever j yields behind i is u
          have hu : ∀ {a' : Act} {w' : World}, Region.wanted oj (yielded ops a'.tmps) = Region.wanted oj (yielded ops a.tmps) → execOp a'.eval oj = execOp a.eval oj → xOp P ops kd j K a' w' → K (a'.put oj.dst u) w' := by
            intro a' w' hw' he' hx
            unfold xOp at hx
            simp only [hj, hkj] at hx
            obtain ⟨u', hy', hk'⟩ := hx
            have : u' = u := by
              have hy2 : PureAt P ops oj u' a := Yields.of_same hy' he'.symm hw'.symm
              rcases hy2 with ⟨q1, q2⟩ | ⟨q1, q2⟩ <;> rcases hy0 with ⟨r1, r2⟩ | ⟨r1, r2⟩
              · have := (q2 w).symm.trans (r2 w); injection this with this; injection this
              · rw [q1] at r1; cases r1
              · rw [q1] at r1; cases r1
              · rw [q2, r2]
            rw [← this]; exact hk'
          have h2 : xOp P ops kd i (fun a' w' => K (a'.put oj.dst u) w') a w := by
            unfold xOp at h ⊢
            simp only [hi] at h ⊢
            have fin : ∀ {v : Value} {w' : World}, xOp P ops kd j K (a.put oi.dst v) w' → K ((a.put oi.dst v).put oj.dst u) w' := fun hx => hu (wanted_put _ _ _ _ j3) (execOp_put _ hsj _ _ _ j3) hx
            cases hki : kd i <;> simp only [hki] at h ⊢
            · obtain ⟨v, hy2, hk2⟩ := h; exact ⟨v, hy2, fin hk2⟩
            · obtain ⟨v, hy2, hk2⟩ := h; exact ⟨v, hy2, fun w' hs' => fin (hk2 w' hs')⟩
            · obtain ⟨hw0, h⟩ := h
              refine ⟨hw0, ?_⟩
              rcases h with ⟨v, w', h1, h2⟩ | ⟨w', h1, h2⟩ | ⟨f, args, h1, h2⟩
              · exact .inl ⟨v, w', h1, fin h2⟩
              · exact .inr (.inl ⟨w', h1, fin h2⟩)
              · exact .inr (.inr ⟨f, args, h1, h2.mono fun e w' ⟨v, he, hk⟩ => ⟨v, he, fin hk⟩⟩)
          have h3 := xOp_put hi hij hsi h2
          conv => unfold xOp
          simp only [hj, hkj]
          exact ⟨u, hy0, h3⟩
        · -- both only read
          have hki : kd i = .read := by cases h' : kd i <;> simp_all [Kd.isPure, Kd.isEff]
          have hkj : kd j = .read := by cases h' : kd j <;> simp_all [Kd.isPure, Kd.isEff]
          unfold xOp at h
          simp only [hi, hki] at h
          obtain ⟨v, hy, hK⟩ := h
          have h0 := hK w (Sees.refl w)
          unfold xOp at h0
          simp only [hj, hkj] at h0
          obtain ⟨u, hyu, hKu⟩ := h0
          have hyu' : ReadAt P ops w oj u a := hyu.of_same (execOp_put _ hsj _ _ _ j3).symm (wanted_put _ _ _ _ j3).symm
          conv => unfold xOp
          simp only [hj, hkj]
          refine ⟨u, hyu', fun w' hs' => ?_⟩
          simp only [hi, hki]
          refine ⟨v, (hy.sees hs').of_same (execOp_put _ hsi _ _ _ i3) (wanted_put _ _ _ _ i3), fun w'' hs'' => ?_⟩
          rw [Act.put_comm a u v j2]
          exact hKu w'' (hs'.trans hs'')

theorem xFront (hs : ∀ (k : Nat) (o : Oper) cs b, ops[k]? = some o → o.op ≠ .select cs b) (i : Nat) (post : List Nat) : ∀ (pre : List Nat) (a : Act) (w : World), (∀ p ∈ pre, mayB ops kd p i = true) →
    xOps P ops kd Q (pre ++ i :: post) a w → xOps P ops kd Q (i :: (pre ++ post)) a w
  | [], _, _, _, h => h
  | p :: pre, a, w, hm, h => by
    have h1 : xOp P ops kd p (xOps P ops kd Q (i :: (pre ++ post))) a w := xOp_mono (fun a w h => xFront hs i post pre a w (fun q hq => hm q (List.mem_cons_of_mem _ hq)) h) h
    exact xSwap (hm p List.mem_cons_self) hs h1

def waits (md : Region.Mode) (ops : Array Oper) (q p : Nat) : Bool := ((ops[q]?).map fun o => o.after.toList.any fun e => Region.binds md e && e.on == p).getD false
def pairB (md : Region.Mode) (ops : Array Oper) (kd : Nat → Kd) : List Nat → Bool
  | [] => true
  | p :: l => (l.all fun q => !waits md ops p q && (waits md ops q p || mayB ops kd p q)) && pairB md ops kd l
def edgesB (md : Region.Mode) (ops : Array Oper) : Bool :=
  (List.range ops.size).all fun i => ((ops[i]?).map fun o => o.after.all fun e => !Region.binds md e || (decide (e.on < ops.size) && e.on != i)).getD true

theorem pairB_sub {md : Region.Mode} (i : Nat) (post : List Nat) : ∀ (pre : List Nat), pairB md ops kd (pre ++ i :: post) = true →
    pairB md ops kd (pre ++ post) = true ∧ ∀ p ∈ pre, waits md ops i p = true ∨ mayB ops kd p i = true
  | [], h => by
    simp only [List.nil_append, pairB, Bool.and_eq_true] at h
    exact ⟨h.2, by simp⟩
  | p :: pre, h => by
    simp only [List.cons_append, pairB, Bool.and_eq_true] at h
    obtain ⟨h1, h2⟩ := h
    obtain ⟨h3, h4⟩ := pairB_sub i post pre h2
    rw [List.all_eq_true] at h1
    refine ⟨?_, ?_⟩
    · simp only [List.cons_append, pairB, Bool.and_eq_true]
      refine ⟨List.all_eq_true.2 fun q hq => h1 q ?_, h3⟩
      rcases List.mem_append.1 hq with h | h
      · exact List.mem_append_left _ h
      · exact List.mem_append_right _ (List.mem_cons_of_mem _ h)
    · intro q hq
      rcases List.mem_cons.1 hq with rfl | hq
      · have := h1 i (List.mem_append_right _ List.mem_cons_self)
        simp only [Bool.and_eq_true, Bool.or_eq_true] at this
        exact this.2
      · exact h4 q hq

theorem wpAny_of_xOps {md : Region.Mode} {Qx : Exit → Act → World → Prop} (hs : ∀ (k : Nat) (o : Oper) cs b, ops[k]? = some o → o.op ≠ .select cs b) (hed : edgesB md ops = true) (hQ : ∀ a w, Q a w → Qx .normal a w) :
    ∀ (fuel : Nat) (listed : Array Bool) (l : List Nat) (a : Act) (w : World), listed.size = ops.size → l.Nodup → (∀ i, i ∈ l ↔ i < ops.size ∧ listed.getD i true = false) → pairB md ops kd l = true → l.length ≤ fuel →
      xOps P ops kd Q l a w → wpAny P md ops Qx fuel listed a w := by
  have hin : ∀ {listed : Array Bool} {i : Nat}, listed.size = ops.size → i ∈ Region.ready md ops listed → i < ops.size ∧ listed.getD i true = false := by
    intro listed i hsz hi
    obtain ⟨h0, o, ho, _⟩ := mem_ready.1 hi
    exact ⟨(Array.getElem?_eq_some_iff.1 ho).1, h0⟩
  intro fuel
  induction fuel with
  | zero =>
    intro listed l a w hsz _ hl _ hlen h
    have : l = [] := List.eq_nil_of_length_eq_zero (by omega)
    subst this
    refine ⟨?_, hQ _ _ h⟩
    apply List.eq_nil_iff_forall_not_mem.2
    intro i hi
    have := (hl i).2 (hin hsz hi)
    simp at this
  | succ fuel ih =>
    intro listed l a w hsz hnd hl hp hlen h
    refine ⟨fun hr => ?_, fun i hi => ?_⟩
    · cases l with
      | nil => exact hQ _ _ h
      | cons p l =>
        exfalso
        have hmem := (hl p).1 List.mem_cons_self
        have : p ∈ Region.ready md ops listed := by
          refine mem_ready.2 ⟨hmem.2, ops[p], Array.getElem?_eq_getElem hmem.1, fun e he hb => ?_⟩
          have hone := (List.all_eq_true.1 hed) p (List.mem_range.2 hmem.1)
          rw [Array.getElem?_eq_getElem hmem.1] at hone
          simp only [Option.map_some, Option.getD_some] at hone
          have hone := Array.all_eq_true_iff_forall_mem.1 hone e he
          rw [hb] at hone
          simp only [Bool.not_true, Bool.false_or, Bool.and_eq_true, decide_eq_true_eq, bne_iff_ne, ne_eq] at hone
          obtain ⟨h1, h2⟩ := hone
          have hlt : e.on < listed.size := by rw [hsz]; exact h1
          cases hc : listed.getD e.on true with
          | true =>
            rw [Array.getD_eq_getD_getElem?, Array.getElem?_eq_getElem hlt] at hc ⊢
            simpa using hc
          | false =>
            exfalso
            have hm := (hl e.on).2 ⟨h1, hc⟩
            rcases List.mem_cons.1 hm with hm | hm
            · exact h2 hm
            · simp only [pairB, Bool.and_eq_true] at hp
              have := List.all_eq_true.1 hp.1 e.on hm
              simp only [Bool.and_eq_true, Bool.not_eq_true'] at this
              have hw : waits md ops p e.on = true := by
                unfold waits
                rw [Array.getElem?_eq_getElem hmem.1]
                simp only [Option.map_some, Option.getD_some]
                exact List.any_eq_true.2 ⟨e, Array.mem_toList_iff.2 he, by simp [hb]⟩
              rw [hw] at this
              exact Bool.noConfusion this.1
        rw [hr] at this
        cases this
    · have hmem := (hl i).2 (hin hsz hi)
      obtain ⟨pre, post, rfl⟩ := List.append_of_mem hmem
      obtain ⟨hp1, hp2⟩ := pairB_sub i post pre hp
      have hmay : ∀ p ∈ pre, mayB ops kd p i = true := by
        intro p hpm
        rcases hp2 p hpm with hw | hm
        · exfalso
          obtain ⟨_, o, ho, hall⟩ := mem_ready.1 hi
          unfold waits at hw
          rw [ho] at hw
          simp only [Option.map_some, Option.getD_some] at hw
          obtain ⟨e, he, hb⟩ := List.any_eq_true.1 hw
          replace he := Array.mem_toList_iff.1 he
          simp only [Bool.and_eq_true, beq_iff_eq] at hb
          have h1 := hall e he hb.1
          have h2 := ((hl p).1 (List.mem_append_left _ hpm)).2
          rw [hb.2] at h1
          have hlt : p < listed.size := by rw [hsz]; exact ((hl p).1 (List.mem_append_left _ hpm)).1
          rw [Array.getD_eq_getD_getElem?, Array.getElem?_eq_getElem hlt] at h1 h2
          simp at h1 h2
          rw [h1] at h2; cases h2
        · exact hm
      have hx := xFront hs i post pre a w hmay h
      refine xOp_wp (K := wpAny P md ops Qx fuel (listed.setIfInBounds i true)) (xOp_mono (fun a w h => ?_) hx)
      have hnd' : (pre ++ post).Nodup ∧ i ∉ pre ++ post := by
        have := hnd
        rw [List.nodup_append] at this
        obtain ⟨n1, n2, n3⟩ := this
        rw [List.nodup_cons] at n2
        refine ⟨List.nodup_append.2 ⟨n1, n2.2, fun a ha b hb => n3 a ha b (List.mem_cons_of_mem _ hb)⟩, fun hm => ?_⟩
        rcases List.mem_append.1 hm with hm | hm
        · exact n3 i hm i List.mem_cons_self rfl
        · exact n2.1 hm
      refine ih _ (pre ++ post) a w (by simpa using hsz) hnd'.1 (fun k => ?_) hp1 (by simp at hlen ⊢; omega) h
      by_cases hk : k = i
      · subst hk
        have hlt : k < listed.size := by rw [hsz]; exact (hin hsz hi).1
        constructor
        · intro hm; exact absurd hm hnd'.2
        · rintro ⟨_, h2⟩; simp [Array.getD_eq_getD_getElem?, hlt] at h2
      · rw [getD_set_ne true (Ne.symm hk), ← hl k]
        simp [hk]

end
end Go.OB
