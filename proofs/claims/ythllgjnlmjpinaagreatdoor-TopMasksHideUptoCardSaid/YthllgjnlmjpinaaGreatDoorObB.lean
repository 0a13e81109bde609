/- Walks: what each function computes, for every argument; no condition but those that stand in the statements. -/
import Derived.Test.YthllgjnlmjpinaaGreatDoorObA
import Derived.Laws.AppendOwn
import Derived.Laws.OwnMore
import Derived.Great.BuildSlice
import Derived.DeepKeys
import Derived.Laws.MakeOwn
import Derived.Laws.StructEq
import Derived.Laws.BytesArg
import Derived.Great.FillDense
import Derived.OpenShut
import Derived.ProofKit
import Derived.Lib.LaidTab
import Derived.ArgAppend
/- A region that draws its order and whose operations are of three kinds: those that look at no memory; those that read it (calls that keep what was there among them);
   those that change it. One walk, in one order, serves every order, if what changes memory is tied to what reads it. -/
namespace Go.OB
open Go.RowKit

inductive Kd where
  | pure | read | eff
def Kd.isPure:Kd→Bool
  | .pure=>true | _=>false
def Kd.isEff:Kd→Bool
  | .eff=>true | _=>false

def uY (P:Program)(ops:Array Oper)(o:Oper)(v:Value)(a:Act):Prop:=Yields P ops o v a
def qQ (P:Program)(w:World)(v:Value):Result Next→Prop
  | .ok (.value u) w'=>w'=w∧u=v
  | .ok .skip w'=>w'=w∧v=undef
  | .ok (.enter f args) w'=>w'=w∧Calls P f args w (fun e w''=>e= .returned v∧fJ w w'')
  | _=>False
def rD (P:Program)(ops:Array Oper)(w:World)(o:Oper)(v:Value)(a:Act):Prop:=
  (Region.wanted o (yielded ops a.tmps)=true∧ ∀w',fJ w w'→qQ P w' v ((execOp a.eval o).run P w'))∨(Region.wanted o (yielded ops a.tmps)=false∧v=undef)
theorem fJ.refl (w:World):fJ w w:=Below.refl _ _
theorem fJ.trans {a b c:World}(h:fJ a b)(k:fJ b c):fJ a c:=Below.trans h (Below.mono k h.size)

def xOp (P:Program)(ops:Array Oper)(kd:Nat→Kd)(i:Nat)(K:Act→World→Prop)(a:Act)(w:World):Prop:=
  match ops[i]? with
  | none=>False
  | some o=>match kd i with
    | .pure=> ∃v,uY P ops o v a∧K (a.put o.dst v) w
    | .read=> ∃v,rD P ops w o v a∧ ∀w',fJ w w'→K (a.put o.dst v) w'
    | .eff=>Region.wanted o (yielded ops a.tmps)=true∧
        ((∃v w',(execOp a.eval o).run P w= .ok (.value v) w'∧K (a.put o.dst v) w')∨(∃w',(execOp a.eval o).run P w= .ok .skip w'∧K (a.put o.dst undef) w')∨
         (∃f args,(execOp a.eval o).run P w= .ok (.enter f args) w∧Calls P f args w fun e w'=> ∃v,e= .returned v∧K (a.put o.dst v) w'))

def dO (P:Program)(ops:Array Oper)(kd:Nat→Kd)(Q:Act→World→Prop):List Nat→Act→World→Prop
  | [],a,w=>Q a w
  | i :: l,a,w=>xOp P ops kd i (dO P ops kd Q l) a w

section
variable {P:Program} {ops:Array Oper} {kd:Nat→Kd} {Q:Act→World→Prop}

theorem sK {i : Nat} {K K' : Act → World → Prop} (h : ∀ a w, K a w → K' a w) {a : Act} {w : World} (hh : xOp P ops kd i K a w) : xOp P ops kd i K' a w := by
  unfold xOp at *
  cases ho : ops[i]? with
  | none => simp only [ho] at hh
  | some o =>
    simp only [ho] at hh ⊢
    cases hk : kd i <;> simp only [hk] at hh ⊢
    · obtain ⟨v, h1, h2⟩ := hh; exact ⟨v, h1, h _ _ h2⟩
    · obtain ⟨v, h1, h2⟩ := hh; exact ⟨v, h1, fun w' hw => h _ _ (h2 w' hw)⟩
    · obtain ⟨h0, hh⟩ := hh
      refine ⟨h0, ?_⟩
      rcases hh with ⟨v, w', h1, h2⟩ | ⟨w', h1, h2⟩ | ⟨f, args, h1, h2⟩
      · exact .inl ⟨v, w', h1, h _ _ h2⟩
      · exact .inr (.inl ⟨w', h1, h _ _ h2⟩)
      · exact .inr (.inr ⟨f, args, h1, h2.mono fun e w' ⟨v, he, hk⟩ => ⟨v, he, h _ _ hk⟩⟩)

theorem aBc {i : Nat} {K : Act → World → Prop} {Qx : Exit → Act → World → Prop} {a : Act} {w : World} (h : xOp P ops kd i K a w) : wpOp P ops Qx i K a w := by
  unfold xOp at h
  unfold wpOp
  cases ho : ops[i]? with
  | none => simp only [ho] at h
  | some o =>
    simp only [ho] at h ⊢
    cases hk : kd i <;> simp only [hk] at h
    · obtain ⟨v, hy, hK⟩ := h
      have := hy.wpOp (Q := Qx) (w := w) ho hK
      simpa only [wpOp, ho] using this
    · obtain ⟨v, hy, hK⟩ := h
      rcases hy with ⟨hw, hq⟩ | ⟨hw, rfl⟩
      · rw [if_pos hw]
        have := hq w (fJ.refl w)
        refine .inl ?_
        unfold Oper.wp
        generalize (execOp a.eval o).run P w = r at this
        cases r with
        | ok n w' =>
          cases n <;> simp only [qQ] at this <;> simp only [Oper.upon]
          case value u => obtain ⟨rfl, rfl⟩ := this; exact hK _ (fJ.refl _)
          case skip => obtain ⟨rfl, rfl⟩ := this; exact hK _ (fJ.refl _)
          case enter f args =>
            obtain ⟨rfl, hc⟩ := this
            exact hc.mono fun e w'' ⟨he, hs⟩ => by subst he; exact hK _ hs
        | halt x w' => simp only [qQ] at this
      · rw [if_neg (by rw [hw]; exact Bool.false_ne_true)]; exact hK _ (fJ.refl _)
    · obtain ⟨h0, h⟩ := h
      rw [if_pos h0]
      refine .inl ?_
      unfold Oper.wp
      rcases h with ⟨v, w', h1, h2⟩ | ⟨w', h1, h2⟩ | ⟨f, args, h1, h2⟩
      · rw [h1]; exact h2
      · rw [h1]; exact h2
      · rw [h1]; exact h2.mono fun e w' ⟨v, he, hk⟩ => by subst he; exact hk

theorem rD.of_same {w:World}{o:Oper}{v:Value}{a a':Act}(hy:rD P ops w o v a)(he:execOp a'.eval o=execOp a.eval o)
    (hw:Region.wanted o (yielded ops a'.tmps)=Region.wanted o (yielded ops a.tmps)):rD P ops w o v a':=by
 unfold rD at *; rw [he,hw]; exact hy
theorem rD.sees {w w':World}{o:Oper}{v:Value}{a:Act}(hy:rD P ops w o v a)(hs:fJ w w'):rD P ops w' o v a:=by
  rcases hy with ⟨hw,hv⟩ | h
  · exact .inl ⟨hw,fun w2 h2=>hv w2 (hs.trans h2)⟩
  · exact .inr h

def uA (ops:Array Oper)(kd:Nat→Kd)(i j:Nat):Bool:=
  match ops[i]?,ops[j]? with
  | some oi,some oj=>oi.apart ops oj && oj.apart ops oi && ((kd i).isPure || (kd j).isPure || (!(kd i).isEff && !(kd j).isEff))
  | _,_=>false

theorem aLq {i : Nat} {oi oj : Oper} (hi : ops[i]? = some oi) (hij : oi.apart ops oj = true) (hsi : ∀ cs b, oi.op ≠ .select cs b) {u : Value}
    {K : Act → World → Prop} {a : Act} {w : World} (h : xOp P ops kd i (fun a' w' => K (a'.put oj.dst u) w') a w) : xOp P ops kd i K (a.put oj.dst u) w := by
  obtain ⟨h1, h2, h3⟩ := Oper.apart_spec hij
  have he : execOp (a.put oj.dst u).eval oi = execOp a.eval oi := execOp_put oi hsi a oj.dst u h3
  have hw : Region.wanted oi (yielded ops (a.put oj.dst u).tmps) = Region.wanted oi (yielded ops a.tmps) := wanted_put oi a oj.dst u h3
  have hc : ∀ v, (a.put oj.dst u).put oi.dst v = (a.put oi.dst v).put oj.dst u := fun v => (Act.put_comm a v u h2).symm
  unfold xOp at *
  simp only [hi] at h ⊢
  cases hk : kd i <;> simp only [hk] at h ⊢
  · obtain ⟨v, hy, hK⟩ := h; exact ⟨v, Yields.of_same hy he hw, by rw [hc]; exact hK⟩
  · obtain ⟨v, hy, hK⟩ := h; exact ⟨v, hy.of_same he hw, fun w' hs => by rw [hc]; exact hK w' hs⟩
  · rw [he, hw]
    obtain ⟨h0, h⟩ := h
    refine ⟨h0, ?_⟩
    rcases h with ⟨v, w', h1, h2⟩ | ⟨w', h1, h2⟩ | ⟨f, args, h1, h2⟩
    · exact .inl ⟨v, w', h1, by rw [hc]; exact h2⟩
    · exact .inr (.inl ⟨w', h1, by rw [hc]; exact h2⟩)
    · exact .inr (.inr ⟨f, args, h1, h2.mono fun e w' ⟨v, he, hk⟩ => ⟨v, he, by rw [hc]; exact hk⟩⟩)
theorem tY {i : Nat} {oi oj : Oper} (hi : ops[i]? = some oi) (hij : oi.apart ops oj = true) (hsi : ∀ cs b, oi.op ≠ .select cs b) {u : Value}
    {K : Act → World → Prop} {a : Act} {w : World} (h : xOp P ops kd i K (a.put oj.dst u) w) : xOp P ops kd i (fun a' w' => K (a'.put oj.dst u) w') a w := by
  obtain ⟨h1, h2, h3⟩ := Oper.apart_spec hij
  have he : execOp (a.put oj.dst u).eval oi = execOp a.eval oi := execOp_put oi hsi a oj.dst u h3
  have hw : Region.wanted oi (yielded ops (a.put oj.dst u).tmps) = Region.wanted oi (yielded ops a.tmps) := wanted_put oi a oj.dst u h3
  have hc : ∀ v, (a.put oj.dst u).put oi.dst v = (a.put oi.dst v).put oj.dst u := fun v => (Act.put_comm a v u h2).symm
  unfold xOp at *
  simp only [hi] at h ⊢
  cases hk : kd i <;> simp only [hk] at h ⊢
  · obtain ⟨v, hy, hK⟩ := h; exact ⟨v, Yields.of_same hy he.symm hw.symm, by rw [← hc]; exact hK⟩
  · obtain ⟨v, hy, hK⟩ := h; exact ⟨v, hy.of_same he.symm hw.symm, fun w' hs => by rw [← hc]; exact hK w' hs⟩
  · rw [he, hw] at h
    obtain ⟨h0, h⟩ := h
    refine ⟨h0, ?_⟩
    rcases h with ⟨v, w', h1, h2⟩ | ⟨w', h1, h2⟩ | ⟨f, args, h1, h2⟩
    · exact .inl ⟨v, w', h1, by rw [← hc]; exact h2⟩
    · exact .inr (.inl ⟨w', h1, by rw [← hc]; exact h2⟩)
    · exact .inr (.inr ⟨f, args, h1, h2.mono fun e w' ⟨v, he, hk⟩ => ⟨v, he, by rw [← hc]; exact hk⟩⟩)

theorem aGs {i : Nat} {oi : Oper} (hi : ops[i]? = some oi) {K : Act → World → Prop} {a : Act} {w : World} (h : xOp P ops kd i K a w) : ∃ v w', K (a.put oi.dst v) w' := by
  unfold xOp at h
  simp only [hi] at h
  cases hk : kd i <;> simp only [hk] at h
  · obtain ⟨v, _, hK⟩ := h; exact ⟨v, w, hK⟩
  · obtain ⟨v, _, hK⟩ := h; exact ⟨v, w, hK w (fJ.refl w)⟩
  · rcases h.2 with ⟨v, w', _, h2⟩ | ⟨w', _, h2⟩ | ⟨f, args, _, h2⟩
    · exact ⟨v, w', h2⟩
    · exact ⟨_, w', h2⟩
    · obtain ⟨e, w', fr, ⟨v, _, hk⟩, _⟩ := h2 []; exact ⟨v, w', hk⟩

theorem xSwap {i j : Nat} (hm : uA ops kd i j = true) (hs : ∀ (k : Nat) (o : Oper) cs b, ops[k]? = some o → o.op ≠ .select cs b) {K : Act → World → Prop} {a : Act} {w : World}
    (h : xOp P ops kd i (xOp P ops kd j K) a w) : xOp P ops kd j (xOp P ops kd i K) a w := by
  unfold uA at hm
  cases hi : ops[i]? with
  | none => simp [hi] at hm
  | some oi =>
    cases hj : ops[j]? with
    | none => simp [hi, hj] at hm
    | some oj =>
      simp only [hi, hj, Bool.and_eq_true, Bool.or_eq_true, Bool.not_eq_true'] at hm
      obtain ⟨⟨hij, hji⟩, hk⟩ := hm
      have hsi := fun cs b => hs i oi cs b hi
      have hsj := fun cs b => hs j oj cs b hj
      obtain ⟨i1, i2, i3⟩ := Oper.apart_spec hij
      obtain ⟨j1, j2, j3⟩ := Oper.apart_spec hji
      have eP : ∀ {o o' : Oper} {v u : Value} {a : Act}, (∀ cs b, o.op ≠ .select cs b) → (∀ d, o'.dst = some d → d ∉ o.looksAt ops) → uY P ops o v (a.put o'.dst u) → uY P ops o v a :=
        fun hs h3 hy => Yields.of_same hy (execOp_put _ hs _ _ _ h3).symm (wanted_put _ _ _ _ h3).symm
      have eP' : ∀ {o o' : Oper} {v u : Value} {a : Act}, (∀ cs b, o.op ≠ .select cs b) → (∀ d, o'.dst = some d → d ∉ o.looksAt ops) → uY P ops o v a → uY P ops o v (a.put o'.dst u) :=
        fun hs h3 hy => Yields.of_same hy (execOp_put _ hs _ _ _ h3) (wanted_put _ _ _ _ h3)
      by_cases hpi : (kd i).isPure = true
      · -- i looks at no memory
        have hki : kd i = .pure := by cases h' : kd i <;> simp_all [Kd.isPure]
        have h0 := h
        unfold xOp at h0
        simp only [hi, hki] at h0
        obtain ⟨v, hy, hK⟩ := h0
        have h1 := tY hj hji hsj hK
        -- carry 'i yields v' along
        have key : ∀ {K' : Act → World → Prop}, xOp P ops kd j (fun a' w' => K' (a'.put oi.dst v) w') a w → xOp P ops kd j (xOp P ops kd i K') a w := by
          intro K' h2
          unfold xOp at h2 ⊢
          simp only [hj] at h2 ⊢
          have fin : ∀ {u : Value} {w' : World}, K' ((a.put oj.dst u).put oi.dst v) w' → (match ops[i]? with
              | none => False
              | some o => match kd i with
                | .pure => ∃ v, uY P ops o v (a.put oj.dst u) ∧ K' ((a.put oj.dst u).put o.dst v) w'
                | .read => ∃ v, rD P ops w' o v (a.put oj.dst u) ∧ ∀ w'', fJ w' w'' → K' ((a.put oj.dst u).put o.dst v) w''
                | .eff => Region.wanted o (yielded ops (a.put oj.dst u).tmps) = true ∧
                    ((∃ v w'', (execOp (a.put oj.dst u).eval o).run P w' = .ok (.value v) w'' ∧ K' ((a.put oj.dst u).put o.dst v) w'') ∨ (∃ w'', (execOp (a.put oj.dst u).eval o).run P w' = .ok .skip w'' ∧ K' ((a.put oj.dst u).put o.dst undef) w'') ∨
                     (∃ f args, (execOp (a.put oj.dst u).eval o).run P w' = .ok (.enter f args) w' ∧ Calls P f args w' fun e w'' => ∃ v, e = .returned v ∧ K' ((a.put oj.dst u).put o.dst v) w''))) := by
            intro u w' hk'
            simp only [hi, hki]
            exact ⟨v, eP' hsi i3 hy, hk'⟩
          cases hkj : kd j <;> simp only [hkj] at h2 ⊢
          · obtain ⟨u, hy2, hk2⟩ := h2; exact ⟨u, hy2, fin hk2⟩
          · obtain ⟨u, hy2, hk2⟩ := h2; exact ⟨u, hy2, fun w' hs' => fin (hk2 w' hs')⟩
          · obtain ⟨hw0, h2⟩ := h2
            refine ⟨hw0, ?_⟩
            rcases h2 with ⟨u, w', h1, h2⟩ | ⟨w', h1, h2⟩ | ⟨f, args, h1, h2⟩
            · exact .inl ⟨u, w', h1, fin h2⟩
            · exact .inr (.inl ⟨w', h1, fin h2⟩)
            · exact .inr (.inr ⟨f, args, h1, h2.mono fun e w' ⟨u, he, hk⟩ => ⟨u, he, fin hk⟩⟩)
        exact key h1
      · by_cases hpj : (kd j).isPure = true
        · -- j looks at no memory
          have hkj : kd j = .pure := by cases h' : kd j <;> simp_all [Kd.isPure]
          obtain ⟨v0, w0, h0⟩ := aGs hi h
          unfold xOp at h0
          simp only [hj, hkj] at h0
          obtain ⟨u, hy, _⟩ := h0
          have hy0 : uY P ops oj u a := eP hsj j3 hy
          -- whatever j yields behind i is u
          have hu : ∀ {a' : Act} {w' : World}, Region.wanted oj (yielded ops a'.tmps) = Region.wanted oj (yielded ops a.tmps) → execOp a'.eval oj = execOp a.eval oj → xOp P ops kd j K a' w' → K (a'.put oj.dst u) w' := by
            intro a' w' hw' he' hx
            unfold xOp at hx
            simp only [hj, hkj] at hx
            obtain ⟨u', hy', hk'⟩ := hx
            have : u' = u := by
              have hy2 : uY P ops oj u' a := Yields.of_same hy' he'.symm hw'.symm
              rcases hy2 with ⟨q1, q2⟩ | ⟨q1, q2⟩ <;> rcases hy0 with ⟨r1, r2⟩ | ⟨r1, r2⟩
              · have := (q2 w).symm.trans (r2 w); injection this with this; injection this
              · rw [q1] at r1; cases r1
              · rw [q1] at r1; cases r1
              · rw [q2, r2]
            rw [← this]; exact hk'
          have h2 : xOp P ops kd i (fun a' w' => K (a'.put oj.dst u) w') a w := by
            unfold xOp at h ⊢
            simp only [hi] at h ⊢
            have fin : ∀ {v : Value} {w' : World}, xOp P ops kd j K (a.put oi.dst v) w' → K ((a.put oi.dst v).put oj.dst u) w' := fun hx => hu (wanted_put _ _ _ _ j3) (execOp_put _ hsj _ _ _ j3) hx
            cases hki : kd i <;> simp only [hki] at h ⊢
            · obtain ⟨v, hy2, hk2⟩ := h; exact ⟨v, hy2, fin hk2⟩
            · obtain ⟨v, hy2, hk2⟩ := h; exact ⟨v, hy2, fun w' hs' => fin (hk2 w' hs')⟩
            · obtain ⟨hw0, h⟩ := h
              refine ⟨hw0, ?_⟩
              rcases h with ⟨v, w', h1, h2⟩ | ⟨w', h1, h2⟩ | ⟨f, args, h1, h2⟩
              · exact .inl ⟨v, w', h1, fin h2⟩
              · exact .inr (.inl ⟨w', h1, fin h2⟩)
              · exact .inr (.inr ⟨f, args, h1, h2.mono fun e w' ⟨v, he, hk⟩ => ⟨v, he, fin hk⟩⟩)
          have h3 := aLq hi hij hsi h2
          conv => unfold xOp
          simp only [hj, hkj]
          exact ⟨u, hy0, h3⟩
        · -- both only read
          have hki : kd i = .read := by cases h' : kd i <;> simp_all [Kd.isPure, Kd.isEff]
          have hkj : kd j = .read := by cases h' : kd j <;> simp_all [Kd.isPure, Kd.isEff]
          unfold xOp at h
          simp only [hi, hki] at h
          obtain ⟨v, hy, hK⟩ := h
          have h0 := hK w (fJ.refl w)
          unfold xOp at h0
          simp only [hj, hkj] at h0
          obtain ⟨u, hyu, hKu⟩ := h0
          have hyu' : rD P ops w oj u a := hyu.of_same (execOp_put _ hsj _ _ _ j3).symm (wanted_put _ _ _ _ j3).symm
          conv => unfold xOp
          simp only [hj, hkj]
          refine ⟨u, hyu', fun w' hs' => ?_⟩
          simp only [hi, hki]
          refine ⟨v, (hy.sees hs').of_same (execOp_put _ hsi _ _ _ i3) (wanted_put _ _ _ _ i3), fun w'' hs'' => ?_⟩
          rw [Act.put_comm a u v j2]
          exact hKu w'' (hs'.trans hs'')

theorem uG (hs: ∀(k:Nat) (o:Oper) cs b,ops[k]? =some o→o.op≠ .select cs b)(i:Nat)(post:List Nat): ∀(pre:List Nat) (a:Act) (w:World),(∀p ∈ pre,uA ops kd p i=true)→
    dO P ops kd Q (pre++i :: post) a w→dO P ops kd Q (i :: (pre++post)) a w
  | [],_,_,_,h=>h
  | p :: pre,a,w,hm,h=>by
    have h1:xOp P ops kd p (dO P ops kd Q (i :: (pre++post))) a w:=sK (fun a w h=>uG hs i post pre a w (fun q hq=>hm q (List.mem_cons_of_mem _ hq)) h) h
    exact xSwap (hm p List.mem_cons_self) hs h1

def waits (md:Region.Mode)(ops:Array Oper)(q p:Nat):Bool:=((ops[q]?).map fun o=>o.after.toList.any fun e=>Region.binds md e && e.on==p).getD false
def pairB (md:Region.Mode)(ops:Array Oper)(kd:Nat→Kd):List Nat→Bool
  | []=>true
  | p :: l=>(l.all fun q=> !waits md ops p q && (waits md ops q p || uA ops kd p q)) && pairB md ops kd l
def edgesB (md:Region.Mode)(ops:Array Oper):Bool:=
  (List.range ops.size).all fun i=>((ops[i]?).map fun o=>o.after.all fun e=> !Region.binds md e || (decide (e.on<ops.size) && e.on !=i)).getD true

theorem kF {md : Region.Mode} (i : Nat) (post : List Nat) : ∀ (pre : List Nat), pairB md ops kd (pre ++ i :: post) = true →
    pairB md ops kd (pre ++ post) = true ∧ ∀ p ∈ pre, waits md ops i p = true ∨ uA ops kd p i = true
  | [], h => by
    simp only [List.nil_append, pairB, Bool.and_eq_true] at h
    exact ⟨h.2, by simp⟩
  | p :: pre, h => by
    simp only [List.cons_append, pairB, Bool.and_eq_true] at h
    obtain ⟨h1, h2⟩ := h
    obtain ⟨h3, h4⟩ := kF i post pre h2
    rw [List.all_eq_true] at h1
    refine ⟨?_, ?_⟩
    · simp only [List.cons_append, pairB, Bool.and_eq_true]
      refine ⟨List.all_eq_true.2 fun q hq => h1 q ?_, h3⟩
      rcases List.mem_append.1 hq with h | h
      · exact List.mem_append_left _ h
      · exact List.mem_append_right _ (List.mem_cons_of_mem _ h)
    · intro q hq
      rcases List.mem_cons.1 hq with rfl | hq
      · have := h1 i (List.mem_append_right _ List.mem_cons_self)
        simp only [Bool.and_eq_true, Bool.or_eq_true] at this
        exact this.2
      · exact h4 q hq

theorem nS {md : Region.Mode} {Qx : Exit → Act → World → Prop} (hs : ∀ (k : Nat) (o : Oper) cs b, ops[k]? = some o → o.op ≠ .select cs b) (hed : edgesB md ops = true) (hQ : ∀ a w, Q a w → Qx .normal a w) :
    ∀ (fuel : Nat) (listed : Array Bool) (l : List Nat) (a : Act) (w : World), listed.size = ops.size → l.Nodup → (∀ i, i ∈ l ↔ i < ops.size ∧ listed.getD i true = false) → pairB md ops kd l = true → l.length ≤ fuel →
      dO P ops kd Q l a w → wpAny P md ops Qx fuel listed a w := by
  have hin : ∀ {listed : Array Bool} {i : Nat}, listed.size = ops.size → i ∈ Region.ready md ops listed → i < ops.size ∧ listed.getD i true = false := by
    intro listed i hsz hi
    obtain ⟨h0, o, ho, _⟩ := mem_ready.1 hi
    exact ⟨(Array.getElem?_eq_some_iff.1 ho).1, h0⟩
  intro fuel
  induction fuel with
  | zero =>
    intro listed l a w hsz _ hl _ hlen h
    have : l = [] := List.eq_nil_of_length_eq_zero (by omega)
    subst this
    refine ⟨?_, hQ _ _ h⟩
    apply List.eq_nil_iff_forall_not_mem.2
    intro i hi
    have := (hl i).2 (hin hsz hi)
    simp at this
  | succ fuel ih =>
    intro listed l a w hsz hnd hl hp hlen h
    refine ⟨fun hr => ?_, fun i hi => ?_⟩
    · cases l with
      | nil => exact hQ _ _ h
      | cons p l =>
        exfalso
        have hmem := (hl p).1 List.mem_cons_self
        have : p ∈ Region.ready md ops listed := by
          refine mem_ready.2 ⟨hmem.2, ops[p], Array.getElem?_eq_getElem hmem.1, fun e he hb => ?_⟩
          have hone := (List.all_eq_true.1 hed) p (List.mem_range.2 hmem.1)
          rw [Array.getElem?_eq_getElem hmem.1] at hone
          simp only [Option.map_some, Option.getD_some] at hone
          have hone := Array.all_eq_true_iff_forall_mem.1 hone e he
          rw [hb] at hone
          simp only [Bool.not_true, Bool.false_or, Bool.and_eq_true, decide_eq_true_eq, bne_iff_ne, ne_eq] at hone
          obtain ⟨h1, h2⟩ := hone
          have hlt : e.on < listed.size := by rw [hsz]; exact h1
          cases hc : listed.getD e.on true with
          | true =>
            rw [Array.getD_eq_getD_getElem?, Array.getElem?_eq_getElem hlt] at hc ⊢
            simpa using hc
          | false =>
            exfalso
            have hm := (hl e.on).2 ⟨h1, hc⟩
            rcases List.mem_cons.1 hm with hm | hm
            · exact h2 hm
            · simp only [pairB, Bool.and_eq_true] at hp
              have := List.all_eq_true.1 hp.1 e.on hm
              simp only [Bool.and_eq_true, Bool.not_eq_true'] at this
              have hw : waits md ops p e.on = true := by
                unfold waits
                rw [Array.getElem?_eq_getElem hmem.1]
                simp only [Option.map_some, Option.getD_some]
                exact List.any_eq_true.2 ⟨e, Array.mem_toList_iff.2 he, by simp [hb]⟩
              rw [hw] at this
              exact Bool.noConfusion this.1
        rw [hr] at this
        cases this
    · have hmem := (hl i).2 (hin hsz hi)
      obtain ⟨pre, post, rfl⟩ := List.append_of_mem hmem
      obtain ⟨hp1, hp2⟩ := kF i post pre hp
      have hmay : ∀ p ∈ pre, uA ops kd p i = true := by
        intro p hpm
        rcases hp2 p hpm with hw | hm
        · exfalso
          obtain ⟨_, o, ho, hall⟩ := mem_ready.1 hi
          unfold waits at hw
          rw [ho] at hw
          simp only [Option.map_some, Option.getD_some] at hw
          obtain ⟨e, he, hb⟩ := List.any_eq_true.1 hw
          replace he := Array.mem_toList_iff.1 he
          simp only [Bool.and_eq_true, beq_iff_eq] at hb
          have h1 := hall e he hb.1
          have h2 := ((hl p).1 (List.mem_append_left _ hpm)).2
          rw [hb.2] at h1
          have hlt : p < listed.size := by rw [hsz]; exact ((hl p).1 (List.mem_append_left _ hpm)).1
          rw [Array.getD_eq_getD_getElem?, Array.getElem?_eq_getElem hlt] at h1 h2
          simp at h1 h2
          rw [h1] at h2; cases h2
        · exact hm
      have hx := uG hs i post pre a w hmay h
      refine aBc (K := wpAny P md ops Qx fuel (listed.setIfInBounds i true)) (sK (fun a w h => ?_) hx)
      have hnd' : (pre ++ post).Nodup ∧ i ∉ pre ++ post := by
        have := hnd
        rw [List.nodup_append] at this
        obtain ⟨n1, n2, n3⟩ := this
        rw [List.nodup_cons] at n2
        refine ⟨List.nodup_append.2 ⟨n1, n2.2, fun a ha b hb => n3 a ha b (List.mem_cons_of_mem _ hb)⟩, fun hm => ?_⟩
        rcases List.mem_append.1 hm with hm | hm
        · exact n3 i hm i List.mem_cons_self rfl
        · exact n2.1 hm
      refine ih _ (pre ++ post) a w (by simpa using hsz) hnd'.1 (fun k => ?_) hp1 (by simp at hlen ⊢; omega) h
      by_cases hk : k = i
      · subst hk
        have hlt : k < listed.size := by rw [hsz]; exact (hin hsz hi).1
        constructor
        · intro hm; exact absurd hm hnd'.2
        · rintro ⟨_, h2⟩; simp [Array.getD_eq_getD_getElem?, hlt] at h2
      · rw [getD_set_ne true (Ne.symm hk), ← hl k]
        simp [hk]

end
end Go.OB
namespace Go.OB
open Go.RowKit

def kdOf (κ:List Kd)(i:Nat):Kd:=κ.getD i .pure

def XL (P:Program)(N:Nat)(ops:Array Oper)(κ:List Kd)(K:Env→World→Prop)(k:Nat)(l:List Oper)(ρ:Env)(w:World):Prop:=
  (∀j,l[j]? =ops[k+j]?)→ ∀w',fJ w w'→ ∀a,Fits N a ρ→dO P ops (kdOf κ) (fun a w=> ∃ρ',Fits N a ρ'∧K ρ' w) (List.range' k l.length) a w'

section
variable {P:Program} {N:Nat} {ops:Array Oper} {κ:List Kd} {K:Env→World→Prop} {Q:Exit→Env→World→Prop} {k:Nat} {rest:List Oper} {ρ:Env} {w:World} {v:Value} {d:Nat} {op:Op} {ty:TypeId} {pos:String} {af:Array Edge} {g:Option (Nat×Bool)}

theorem WP_mix {id:Nat}{l:List Oper}(κ:List Kd)(hm:P.follows .mixedOrders=true)(hs:Region.noSelect l.toArray=true)(hed:edgesB .any l.toArray=true)(hp:pairB .any l.toArray (kdOf κ) (List.range l.length)=true)
    (h:XL P N l.toArray κ (fun ρ w=>Q .normal ρ w) 0 l ρ w):WP P N (.region id l.toArray true) Q ρ w:=by
  intro a ha
  have h1: ∀w',fJ w w'→dO P l.toArray (kdOf κ) (fun a w=>uP N Q .normal a w) (List.range l.length) a w':=by
    intro w' hw'
    rw [List.range_eq_range']
    exact h (by simp) w' hw' a ha
  have hr:=nS (P:=P) (ops:=l.toArray) (kd:=kdOf κ) (Q:=fun a w=>uP N Q .normal a w) (md:= .any) (Qx:=uP N Q) (Region.noSelect_spec hs) hed (fun _ _ h=>h) l.toArray.size (Array.replicate l.toArray.size false) (List.range l.length) a {w with drawn:=w.drawn+1}
    (by simp) List.nodup_range (fun i=>by
      rw [List.mem_range]
      constructor
      · intro hi; exact ⟨by simpa using hi,by simp [Array.getD_eq_getD_getElem?,hi]⟩
      · exact fun h=>by simpa using h.1) hp (by simp) (h1 _ ((Below.refl _ _).drew))
  exact wp_region_any hm hr

theorem xG (h: ∀w',fJ w w'→K ρ w'):XL P N ops κ K k [] ρ w:=fun _ w' hw' _ ha=>⟨ρ,ha,h w' hw'⟩

theorem XL.head {o:Oper}(hl: ∀j,(o :: rest)[j]? =ops[k+j]?):ops[k]? =some o:=by simpa using (hl 0).symm
theorem XL.tail {o:Oper}(hl: ∀j,(o :: rest)[j]? =ops[k+j]?): ∀j,rest[j]? =ops[k+1+j]? :=fun j=>by
  have:=hl (j+1); simpa [Nat.add_assoc,Nat.add_comm 1 j] using this

theorem XL_pure (hk:kdOf κ k= .pure)(hw:dA N ops ρ ⟨some d,op,ty,pos,af,g⟩=true)(hd:Nat.blt d N=true)(h: ∀w',Do P ⟨some d,op,ty,pos,af,g⟩ ρ w' v w')(n:XL P N ops κ K (k+1) rest (upd ρ d v) w):
    XL P N ops κ K k (⟨some d,op,ty,pos,af,g⟩ :: rest) ρ w:=by
 intro hl w' hw' a ha;simp only [List.length_cons,List.range'_succ,dO];unfold xOp;simp only [XL.head hl,hk];refine ⟨v,.inl ⟨by rw [ha.wanted]; exact hw,fun w2=>by rw [ha.eval]; exact h w2⟩,n (XL.tail hl) w' hw' _ (ha.put (wC hd) v)⟩
theorem XL_offp (hk:kdOf κ k= .pure)(hw:dA N ops ρ ⟨some d,op,ty,pos,af,g⟩=false)(hd:Nat.blt d N=true)(n:XL P N ops κ K (k+1) rest (upd ρ d undef) w):
    XL P N ops κ K k (⟨some d,op,ty,pos,af,g⟩ :: rest) ρ w:=by
 intro hl w' hw' a ha;simp only [List.length_cons,List.range'_succ,dO];unfold xOp;simp only [XL.head hl,hk];refine ⟨undef,.inr ⟨by rw [ha.wanted]; exact hw,rfl⟩,n (XL.tail hl) w' hw' _ (ha.put (wC hd) _)⟩
theorem XL_offr (hk:kdOf κ k= .read)(hw:dA N ops ρ ⟨some d,op,ty,pos,af,g⟩=false)(hd:Nat.blt d N=true)(n:XL P N ops κ K (k+1) rest (upd ρ d undef) w):
    XL P N ops κ K k (⟨some d,op,ty,pos,af,g⟩ :: rest) ρ w:=by
 intro hl w' hw' a ha;simp only [List.length_cons,List.range'_succ,dO];unfold xOp;simp only [XL.head hl,hk];refine ⟨undef,.inr ⟨by rw [ha.wanted]; exact hw,rfl⟩,fun w2 h2=>n (XL.tail hl) w2 (hw'.trans h2) _ (ha.put (wC hd) _)⟩
theorem xY (hk:kdOf κ k= .read)(hw:dA N ops ρ ⟨some d,op,ty,pos,af,g⟩=true)(hd:Nat.blt d N=true)(h: ∀w',fJ w w'→Do P ⟨some d,op,ty,pos,af,g⟩ ρ w' v w')(n:XL P N ops κ K (k+1) rest (upd ρ d v) w):
    XL P N ops κ K k (⟨some d,op,ty,pos,af,g⟩ :: rest) ρ w:=by
 intro hl w' hw' a ha;simp only [List.length_cons,List.range'_succ,dO];unfold xOp;simp only [XL.head hl,hk];refine ⟨v,.inl ⟨by rw [ha.wanted]; exact hw,fun w2 h2=>?_⟩,fun w2 h2=>n (XL.tail hl) w2 (hw'.trans h2) _ (ha.put (wC hd) v)⟩;rw [ha.eval,show (execOp (ev ρ) _).run P w2=_ from h w2 (hw'.trans h2)];exact ⟨rfl,rfl⟩
theorem XL_call {f:FuncId}{args:Array Value}(hk:kdOf κ k= .read)(hw:dA N ops ρ ⟨some d,op,ty,pos,af,g⟩=true)(hd:Nat.blt d N=true)(h: ∀w',fJ w w'→DoC P ⟨some d,op,ty,pos,af,g⟩ ρ w' f args)
    (hc: ∀w',fJ w w'→Calls P f args w' fun e w''=>e= .returned v∧Below w'.heap.size w' w'')(n:XL P N ops κ K (k+1) rest (upd ρ d v) w):
    XL P N ops κ K k (⟨some d,op,ty,pos,af,g⟩ :: rest) ρ w:=by
 intro hl w' hw' a ha;simp only [List.length_cons,List.range'_succ,dO];unfold xOp;simp only [XL.head hl,hk];refine ⟨v,.inl ⟨by rw [ha.wanted]; exact hw,fun w2 h2=>?_⟩,fun w2 h2=>n (XL.tail hl) w2 (hw'.trans h2) _ (ha.put (wC hd) v)⟩;rw [ha.eval,show (execOp (ev ρ) _).run P w2=_ from h w2 (hw'.trans h2)];exact ⟨rfl,(hc w2 (hw'.trans h2)).mono fun e w3 ⟨he,hb⟩=>⟨he,hb⟩⟩
theorem XL_splitb {b:Bool}{x:Operand}(hk:kdOf κ k= .pure)(hw:dA N ops ρ ⟨some d,.move x,ty,pos,af,g⟩=true)(hd:Nat.blt d N=true)(hx:ev ρ x= .bool b)
    (ht:b=true→XL P N ops κ K (k+1) rest (upd ρ d (.bool true)) w)(hf:b=false→XL P N ops κ K (k+1) rest (upd ρ d (.bool false)) w):XL P N ops κ K k (⟨some d,.move x,ty,pos,af,g⟩ :: rest) ρ w:=by
 refine XL_pure (v:= .bool b) hk hw hd (fun w'=>by unfold Do; simp [execOp,hx]) ?_;cases b;exact hf rfl;exact ht rfl
theorem XL_eff (hk:kdOf κ k= .eff)(hw:dA N ops ρ ⟨some d,op,ty,pos,af,g⟩=true)(hd:Nat.blt d N=true)
    (h: ∀w',fJ w w'→ ∃v w'',Do P ⟨some d,op,ty,pos,af,g⟩ ρ w' v w''∧XL P N ops κ K (k+1) rest (upd ρ d v) w''):XL P N ops κ K k (⟨some d,op,ty,pos,af,g⟩ :: rest) ρ w:=by
 intro hl w' hw' a ha;obtain ⟨v,w'',h1,h2⟩:=h w' hw';simp only [List.length_cons,List.range'_succ,dO];unfold xOp;simp only [XL.head hl,hk];refine ⟨by rw [ha.wanted]; exact hw,.inl ⟨v,w'',by rw [ha.eval]; exact h1,h2 (XL.tail hl) w'' (fJ.refl _) _ (ha.put (wC hd) v)⟩⟩
theorem XL_effU (hk:kdOf κ k= .eff)(hw:dA N ops ρ ⟨none,op,ty,pos,af,g⟩=true)
    (h: ∀w',fJ w w'→ ∃w'',DoU P ⟨none,op,ty,pos,af,g⟩ ρ w' w''∧XL P N ops κ K (k+1) rest ρ w''):XL P N ops κ K k (⟨none,op,ty,pos,af,g⟩ :: rest) ρ w:=by
 intro hl w' hw' a ha;obtain ⟨w'',h1,h2⟩:=h w' hw';simp only [List.length_cons,List.range'_succ,dO];unfold xOp;simp only [XL.head hl,hk];refine ⟨by rw [ha.wanted]; exact hw,.inr (.inl ⟨w'',by rw [ha.eval]; exact h1,h2 (XL.tail hl) w'' (fJ.refl _) _ ha⟩)⟩
theorem XL_effC {f:FuncId}{args:Array Value}{R:World→Ending→World→Prop}(hk:kdOf κ k= .eff)(hw:dA N ops ρ ⟨some d,op,ty,pos,af,g⟩=true)(hd:Nat.blt d N=true)(h: ∀w',fJ w w'→DoC P ⟨some d,op,ty,pos,af,g⟩ ρ w' f args)
    (hc: ∀w',fJ w w'→Calls P f args w' (R w'))(n: ∀w' e w'',fJ w w'→R w' e w''→ ∃v,e= .returned v∧XL P N ops κ K (k+1) rest (upd ρ d v) w''):XL P N ops κ K k (⟨some d,op,ty,pos,af,g⟩ :: rest) ρ w:=by
 intro hl w' hw' a ha;simp only [List.length_cons,List.range'_succ,dO];unfold xOp;simp only [XL.head hl,hk];refine ⟨by rw [ha.wanted]; exact hw,.inr (.inr ⟨f,args,by rw [ha.eval]; exact h w' hw',(hc w' hw').mono fun e w'' hR=>?_⟩)⟩;obtain ⟨v,he,hx⟩:=n w' e w'' hw' hR;exact ⟨v,he,hx (XL.tail hl) w'' (fJ.refl _) _ (ha.put (wC hd) v)⟩
structure Wx (w w':World)(b:Nat)(cs:List Value)(T:TypeId):Prop where
  blk:Blk w' b cs T
  only:Only [b] w w'
end
end Go.OB
namespace Go.OB
open Go.RowKit

inductive It where
  | blk (b:Nat) (cs:List Value) (T:TypeId)
  | sl (v:Value) (e:TypeId) (s n:Nat) (xs:List Value)
  | rd (v:Value) (s n:Nat) (xs:List Value)

def ob (v:Value):List Nat:=(aH v).toList
def It.blocks:It→List Nat
  | .blk b _ _=>[b]
  | .sl v _ _ _ _=>ob v
  | .rd v _ _ _=>ob v
def It.holds (w:World):It→Prop
  | .blk b cs T=>Blk w b cs T
  | .sl v e s n xs=>w.ownsRow 0 e s v n xs
  | .rd v s n xs=>SlR w v s n xs

structure Sep (S:List Nat)(w0 w:World)(l:List It):Prop where
  only:Only S w0 w
  holds: ∀it ∈ l,it.holds w
  own: ∀it ∈ l,∀b ∈ it.blocks,(w0.heap.size≤b∨b ∈ S)∧b<w.heap.size
  nd:(l.flatMap It.blocks).Nodup

theorem kK {v:Value}{b:Nat}:b ∈ ob v↔aH v=some b:=by unfold ob; cases aH v<;>simp [eq_comm]
theorem vY (v:Value):v.ownBlock=aH v:=by
 cases v<;>rfl

theorem owns_only {S : List Nat} {w w' : World} {B : Nat} {v : Value} {e s n : Nat} {xs : List Value} (h : w.ownsRow B e s v n xs) (ho : Only S w w') (hb : ∀ b ∈ ob v, b ∉ S) : w'.ownsRow B e s v n xs := by
  refine ⟨h.1, ?_⟩
  rcases h.2 with hn | ⟨g, cap, cur, rfl, h1, hg, rest⟩
  · exact .inl hn
  · refine .inr ⟨g, cap, cur, rfl, h1, ?_, rest⟩
    rw [ho.block g (Array.getElem?_eq_some_iff.1 hg).1 (hb g (by simp [ob, aH]))]
    exact hg
theorem vI {w : World} {B : Nat} {v : Value} {e s n : Nat} {xs : List Value} (h : w.ownsRow B e s v n xs) : SlR w v s n xs := by
  refine ⟨h.1, ?_⟩
  rcases h.2 with hn | ⟨g, cap, cur, rfl, _, hg, h2, h3, h4, h5⟩
  · exact .inl hn
  · refine .inr ⟨⟨g, 0, none⟩, cap, rfl, h2, h3, fun _ => rfl, ?_⟩
    intro i u hu
    rw [Addr.add_none, Nat.zero_add, cell_of_row w g i cur e (0, 0) hg]
    rw [← h5, List.getElem?_take] at hu
    split at hu
    · simpa using hu
    · cases hu
theorem rF {w:World}{B:Nat}{v:Value}{e s n:Nat}{xs:List Value}(h:w.ownsRow B e s v n xs): ∀b ∈ ob v,B≤b∧b<w.heap.size:=by
 intro b hb;exact h.lt b (by rw [vY]; exact kK.1 hb)

theorem It.only {S:List Nat}{w w':World}{it:It}(h:it.holds w)(ho:Only S w w')(hb: ∀b ∈ it.blocks,b ∉ S):it.holds w':=by
  cases it with
  | blk b cs T=>exact Blk.only h ho (hb b (by simp [It.blocks]))
  | sl v e s n xs=>exact owns_only h ho hb
  | rd v s n xs=>exact SlR.only h ho (fun _ b h1=>hb b (kK.2 h1))

section
variable {S:List Nat} {w0 w w':World} {l:List It} {i:Nat} {b:Nat} {cs cs':List Value} {T:TypeId} {v:Value} {e s n:Nat} {xs:List Value}

theorem Sep.item (h:Sep S w0 w l){it:It}(hi:l[i]? =some it):it.holds w:=h.holds it (List.mem_of_getElem? hi)
theorem Sep.blk (h:Sep S w0 w l)(hi:l[i]? =some (.blk b cs T)):Blk w b cs T:=h.item hi
theorem Sep.sl (h:Sep S w0 w l)(hi:l[i]? =some (.sl v e s n xs)):w.ownsRow 0 e s v n xs:=h.item hi
theorem Sep.slr (h:Sep S w0 w l)(hi:l[i]? =some (.sl v e s n xs)):SlR w v s n xs:=vI (h.sl hi)
theorem Sep.rd (h:Sep S w0 w l)(hi:l[i]? =some (.rd v s n xs)):SlR w v s n xs:=h.item hi
theorem Sep.step (h:Sep S w0 w l)(ho:Only [] w w'):Sep S w0 w' l:=
  ⟨h.only.trans (ho.mono (by simp)),fun it hm=>It.only (h.holds it hm) ho (by simp),fun it hm b hb=>⟨(h.own it hm b hb).1,Nat.lt_of_lt_of_le (h.own it hm b hb).2 ho.size⟩,h.nd⟩
theorem Sep.below (h:Sep S w0 w l)(ho:Below w.heap.size w w'):Sep S w0 w' l:=h.step (Only.of_below ho)
theorem Sep.sees (h:Sep S w0 w l)(ho:fJ w w'):Sep S w0 w' l:=h.below ho
theorem aTm (h:Sep S w0 w l){b:Nat}(hb:b ∈ l.flatMap It.blocks):b<w.heap.size:=by
 obtain ⟨it,hm,hb⟩:=List.mem_flatMap.1 hb;exact (h.own it hm b hb).2
theorem Sep.add (h : Sep S w0 w l) (ho : Only [] w w') {it : It} (hh : it.holds w') (hb : ∀ b ∈ it.blocks, w.heap.size ≤ b ∧ b < w'.heap.size) (hn : it.blocks.Nodup) : Sep S w0 w' (l ++ [it]) := by
  have h1 := h.step ho
  refine ⟨h1.only, ?_, ?_, ?_⟩
  · intro x hx
    rcases List.mem_append.1 hx with hx | hx
    · exact h1.holds x hx
    · obtain rfl := List.mem_singleton.1 hx; exact hh
  · intro x hx b hbx
    rcases List.mem_append.1 hx with hx | hx
    · exact h1.own x hx b hbx
    · obtain rfl := List.mem_singleton.1 hx
      exact ⟨.inl (Nat.le_trans h.only.size (hb b hbx).1), (hb b hbx).2⟩
  · rw [List.flatMap_append, List.nodup_append]
    refine ⟨h1.nd, by simpa using hn, ?_⟩
    intro a ha c hc
    have := aTm h ha
    have hc' : c ∈ it.blocks := by simpa using hc
    have := (hb c hc').1
    omega
theorem Sep.alloc (h:Sep S w0 w l)(ha:Al w w' b cs T):Sep S w0 w' (l++ [.blk b cs T]):=
  h.add ha.only ha.blk (by intro c hc; obtain rfl:=List.mem_singleton.1 hc; exact ⟨Nat.le_of_eq ha.at_.symm,by rw [ha.at_,ha.size]; omega⟩) (by simp [It.blocks])
theorem Sep.nil (h:Sep S w0 w l)(e s:Nat):Sep S w0 w (l++ [.sl (.slice none 0 0) e s 0 []]):=
  h.add (Only.refl [] w) (w.ownsRow_nil 0 e s) (by simp [It.blocks,ob,aH]) (by simp [It.blocks,ob,aH])

theorem aOk : ∀ (l : List It) (i : Nat) (it it' : It), l[i]? = some it → (l.flatMap It.blocks).Nodup → (∀ b ∈ it'.blocks, b ∈ it.blocks ∨ b ∉ l.flatMap It.blocks) → it'.blocks.Nodup → ((l.set i it').flatMap It.blocks).Nodup ∧ (∀ j, j ≠ i → ∀ x, l[j]? = some x → ∀ b ∈ x.blocks, b ∉ it.blocks)
  | [], i, it, it', hi, _, _, _ => by simp at hi
  | x :: l, 0, it, it', hi, hn, hb, hn' => by
    have : x = it := by simpa using hi
    subst this
    rw [List.flatMap_cons, List.nodup_append] at hn
    refine ⟨?_, ?_⟩
    · rw [List.set_cons_zero, List.flatMap_cons, List.nodup_append]
      refine ⟨hn', hn.2.1, fun a ha c hc heq => ?_⟩
      subst heq
      rcases hb a ha with h | h
      · exact hn.2.2 a h a hc rfl
      · exact h (by rw [List.flatMap_cons]; exact List.mem_append_right _ hc)
    · intro j hj y hy b hby hbx
      cases j with
      | zero => exact hj rfl
      | succ j =>
        have hm : y ∈ l := List.mem_of_getElem? (by simpa using hy)
        exact hn.2.2 b hbx b (List.mem_flatMap.2 ⟨y, hm, hby⟩) rfl
  | x :: l, i + 1, it, it', hi, hn, hb, hn' => by
    have hi' : l[i]? = some it := by simpa using hi
    rw [List.flatMap_cons, List.nodup_append] at hn
    have ih := aOk l i it it' hi' hn.2.1 (fun b h => (hb b h).imp id fun h hm => h (by rw [List.flatMap_cons]; exact List.mem_append_right _ hm)) hn'
    refine ⟨?_, ?_⟩
    · rw [List.set_cons_succ, List.flatMap_cons, List.nodup_append]
      refine ⟨hn.1, ih.1, fun a ha c hc heq => ?_⟩
      subst heq
      obtain ⟨y, hy, hay⟩ := List.mem_flatMap.1 hc
      rcases List.mem_or_eq_of_mem_set hy with h | h
      · exact hn.2.2 a ha a (List.mem_flatMap.2 ⟨y, h, hay⟩) rfl
      · subst h
        rcases hb a hay with h | h
        · exact hn.2.2 a ha a (List.mem_flatMap.2 ⟨it, List.mem_of_getElem? hi', h⟩) rfl
        · exact h (by rw [List.flatMap_cons]; exact List.mem_append_left _ ha)
    · intro j hj y hy b hby hbx
      cases j with
      | zero =>
        have : x = y := by simpa using hy
        subst this
        exact hn.2.2 b hby b (List.mem_flatMap.2 ⟨it, List.mem_of_getElem? hi', hbx⟩) rfl
      | succ j => exact ih.2 j (by omega) y (by simpa using hy) b hby hbx

theorem Sep.turn (h : Sep S w0 w l) {it it' : It} (hi : l[i]? = some it) (ho : Only it.blocks w w') (hh : it'.holds w') (hb : ∀ b ∈ it'.blocks, (b ∈ it.blocks ∨ w.heap.size ≤ b) ∧ b < w'.heap.size) (hn : it'.blocks.Nodup) : Sep S w0 w' (l.set i it') := by
  obtain ⟨h1, h2⟩ := aOk l i it it' hi h.nd (fun b hb' => (hb b hb').1.imp id fun h3 hm => by have := aTm h hm; omega) hn
  have ob0 : ∀ b ∈ it.blocks, w0.heap.size ≤ b ∨ b ∈ S := fun b hb => (h.own it (List.mem_of_getElem? hi) b hb).1
  refine ⟨h.only.step ho ob0, ?_, ?_, h1⟩
  · intro x hx
    obtain ⟨j, hj⟩ := List.getElem?_of_mem hx
    rw [List.getElem?_set] at hj
    split at hj
    · split at hj
      · cases hj; exact hh
      · cases hj
    · rename_i hne
      exact It.only (h.holds x (List.mem_of_getElem? hj)) ho (h2 j (fun e => hne e.symm) x hj)
  · intro x hx b hbx
    rcases List.mem_or_eq_of_mem_set hx with hx | rfl
    · exact ⟨(h.own x hx b hbx).1, Nat.lt_of_lt_of_le (h.own x hx b hbx).2 ho.size⟩
    · refine ⟨?_, (hb b hbx).2⟩
      rcases (hb b hbx).1 with h3 | h3
      · exact ob0 b h3
      · exact .inl (Nat.le_trans h.only.size h3)
theorem Sep.write (h:Sep S w0 w l)(hi:l[i]? =some (.blk b cs T))(hb:Blk w' b cs' T)(ho:Only [b] w w'):Sep S w0 w' (l.set i (.blk b cs' T)):=
  h.turn hi ho hb (by intro c hc; obtain rfl:=List.mem_singleton.1 hc; exact ⟨.inl (by simp [It.blocks]),hb.lt⟩) (by simp [It.blocks])
theorem Sep.wr (h:Sep S w0 w l)(hi:l[i]? =some (.blk b cs T))(hw:Wr w w' b cs' T):Sep S w0 w' (l.set i (.blk b cs' T)):=h.write hi hw.blk hw.only

structure Ap (w w':World)(v v':Value)(e s n:Nat)(xs:List Value):Prop where
  own:w'.ownsRow 0 e s v' n xs
  only:Only (ob v) w w'
  blk: ∀b,aH v'=some b→aH v=some b∨w.heap.size≤b
end
end Go.OB
namespace Go.OB
open Go.RowKit

section
variable {P:Program} {N:Nat} {ops:Array Oper} {κ:List Kd} {K:Env→World→Prop} {Q:Exit→Env→World→Prop} {k:Nat} {rest:List Oper} {ρ:Env} {w:World} {v:Value} {d:Nat} {op:Op} {ty:TypeId} {pos:String} {af:Array Edge} {g:Option (Nat×Bool)}

theorem yH {R:Value→World→Prop}(hw:dA N ops ρ ⟨some d,op,ty,pos,af,g⟩=true)(hd:Nat.blt d N=true)(h: ∃v w',Do P ⟨some d,op,ty,pos,af,g⟩ ρ w v w'∧R v w')
    (k: ∀v w',R v w'→RL P N ops Q rest (upd ρ d v) w'):RL P N ops Q (⟨some d,op,ty,pos,af,g⟩ :: rest) ρ w:=by
 obtain ⟨v,w',h1,h2⟩:=h; exact wI hw hd h1 (k v w' h2)
theorem yP {R:World→Prop}(hw:dA N ops ρ ⟨none,op,ty,pos,af,g⟩=true)(h: ∃w',DoU P ⟨none,op,ty,pos,af,g⟩ ρ w w'∧R w')
    (k: ∀w',R w'→RL P N ops Q rest ρ w'):RL P N ops Q (⟨none,op,ty,pos,af,g⟩ :: rest) ρ w:=by
 obtain ⟨w',h1,h2⟩:=h; exact RL_doU hw h1 (k w' h2)
theorem XL_ex {R:World→Value→World→Prop}(hk:kdOf κ k= .eff)(hw:dA N ops ρ ⟨some d,op,ty,pos,af,g⟩=true)(hd:Nat.blt d N=true)(h: ∀w1,fJ w w1→ ∃v w',Do P ⟨some d,op,ty,pos,af,g⟩ ρ w1 v w'∧R w1 v w')
    (n: ∀w1 v w',fJ w w1→R w1 v w'→XL P N ops κ K (k+1) rest (upd ρ d v) w'):XL P N ops κ K k (⟨some d,op,ty,pos,af,g⟩ :: rest) ρ w:=
  XL_eff hk hw hd fun w1 h1=>by obtain ⟨v,w',h2,h3⟩:=h w1 h1; exact ⟨v,w',h2,n w1 v w' h1 h3⟩
theorem XL_exU {R:World→World→Prop}(hk:kdOf κ k= .eff)(hw:dA N ops ρ ⟨none,op,ty,pos,af,g⟩=true)(h: ∀w1,fJ w w1→ ∃w',DoU P ⟨none,op,ty,pos,af,g⟩ ρ w1 w'∧R w1 w')
    (n: ∀w1 w',fJ w w1→R w1 w'→XL P N ops κ K (k+1) rest ρ w'):XL P N ops κ K k (⟨none,op,ty,pos,af,g⟩ :: rest) ρ w:=
  XL_effU hk hw fun w1 h1=>by obtain ⟨w',h2,h3⟩:=h w1 h1; exact ⟨w',h2,n w1 w' h1 h3⟩
end

section
variable {P:Program} {ρ:Env} {w:World} {d:Option Tmp} {x y z:Operand} {t u ty e:TypeId} {pos:String} {af:Array Edge} {g:Option (Nat×Bool)}
variable {v:Value} {b o i j m n c s:Nat} {k k':IntKind} {q:Int} {cs cs' xs ys:List Value} {T:TypeId}

theorem aNd (hz:Zero P t cs): ∃v w',Do P ⟨d,.alloc t,ty,pos,af,g⟩ ρ w v w'∧ ∃b,v= .pointer (some ⟨b,0,none⟩)∧Al w w' b cs t:=by
  refine ⟨.pointer (some ⟨w.heap.size,0,none⟩),w.alloc (.cells cs.toArray t),?_,_,rfl,Al.mk' w cs t⟩
  unfold Zero at hz
  cases hi:P.info? t with
  | none=>rw [hi] at hz; cases hz
  | some inf=>
    rw [hi] at hz
    cases hzz:inf.zero with
    | none=>simp [hzz] at hz
    | some zv=>
      simp [hzz] at hz
      unfold Do
      simp [execOp,Instr.alloc,zeroValue,typeInfo,hi,hzz,newVar,newRow,newObj,Sem.run,← hz]
theorem Ex_box (hx:ev ρ x= .agg cs.toArray): ∃v w',Do P ⟨d,.box t x,ty,pos,af,g⟩ ρ w v w'∧ ∃b,v= .pointer (some ⟨b,0,none⟩)∧Al w w' b cs t:=by
 refine ⟨.pointer (some ⟨w.heap.size,0,none⟩),w.alloc (.cells cs.toArray t),?_,_,rfl,Al.mk' w cs t⟩;unfold Do;simp [execOp,hx,Instr.box,newVar,newRow,newObj,Sem.run,Value.cells]
theorem Ex_box1 (hx:ev ρ x=v)(hv:v.cells= #[v]): ∃u w',Do P ⟨d,.box t x,ty,pos,af,g⟩ ρ w u w'∧ ∃b,u= .pointer (some ⟨b,0,none⟩)∧Al w w' b [v] t:=by
 refine ⟨.pointer (some ⟨w.heap.size,0,none⟩),w.alloc (.cells #[v] t),?_,_,rfl,Al.mk' w [v] t⟩;unfold Do;simp [execOp,hx,Instr.box,newVar,newRow,newObj,Sem.run,hv]
def splice (cs:List Value)(i:Nat)(vs:List Value):List Value:=cs.take i++vs++cs.drop (i+vs.length)
theorem bP {cs vs:List Value}{i:Nat}(h:i+vs.length≤cs.length):(splice cs i vs).length=cs.length:=by simp [splice]; omega
theorem aRa {cs:List Value}{i:Nat}(hi:i<cs.length)(v:Value):splice cs i [v]=cs.set i v:=by
 unfold splice; rw [List.set_eq_take_append_cons_drop,if_pos hi]; simp
theorem aQz {cs vs:List Value}(h:vs.length=cs.length):splice cs 0 vs=vs:=by unfold splice; simp [List.drop_eq_nil_of_le,h]
theorem run_store {vs:List Value}(hb:Blk w b cs T)(hi:i+vs.length≤cs.length)(h1: ∀v ∈ vs,v.oneCell'=true):
    ∃w',(storeCells ⟨b,i,none⟩ vs 0).run P w= .ok () w'∧Wr w w' b (splice cs i vs) T:=by
 have h:=run_storeCells_at P b i T vs 0 cs.toArray w hb (by simpa using hi) h1;simp only [Nat.add_zero] at h;refine ⟨_,h,?_⟩;exact Wr.setRow hb (splice cs i vs)
theorem nI {vs:List Value}{m:Nat}(hs:Sz P t m)(hm:vs.length=m)(hx:ev ρ x= .pointer (some ⟨b,i,none⟩))(hy:(ev ρ y).cells=vs.toArray)(h1: ∀v ∈ vs,v.oneCell'=true)(hb:Blk w b cs T)(hi:i+vs.length≤cs.length):
    ∃w',DoU P ⟨none,.store t x y,ty,pos,af,g⟩ ρ w w'∧Wr w w' b (splice cs i vs) T:=by
 subst hm;obtain ⟨w',h,hw⟩:=run_store (P:=P) hb hi h1;refine ⟨w',?_,hw⟩;unfold DoU;simp [execOp,hx,Instr.storeAt,Instr.sureAddr,storeVar,hy,bZ hs,h]
theorem Ex_store1 (hs:Sz P t 1)(hx:ev ρ x= .pointer (some ⟨b,i,none⟩))(hy:ev ρ y=v)(h1:v.oneCell'=true)(hb:Blk w b cs T)(hi:i<cs.length):
    ∃w',DoU P ⟨none,.store t x y,ty,pos,af,g⟩ ρ w w'∧Wr w w' b (cs.set i v) T:=by
 have hv:(ev ρ y).cells= [v].toArray:=by rw [hy]; cases v<;>simp_all [Value.cells,Value.oneCell']
 obtain ⟨w',h,hw⟩:=nI (P:=P) (ty:=ty) (pos:=pos) (af:=af) (g:=g) (vs:=[v]) hs rfl hx hv (by simpa using h1) hb (Nat.succ_le_of_lt hi);exact ⟨w',h,by rw [aRa hi] at hw; exact hw⟩
theorem aOt {vs:List Value}{m:Nat}(hs:Sz P t m)(hm:vs.length=m)(hx:ev ρ x= .pointer (some ⟨b,i,none⟩))(hy:ev ρ y= .agg vs.toArray)(h1: ∀v ∈ vs,v.oneCell'=true)(hb:Blk w b cs T)(hi:i+vs.length≤cs.length):
    ∃w',DoU P ⟨none,.store t x y,ty,pos,af,g⟩ ρ w w'∧Wr w w' b (splice cs i vs) T:=nI hs hm hx (by rw [hy]; rfl) h1 hb hi
structure El (P:Program)(e:TypeId)(s bytes:Nat)(zs:List Value):Prop where
  sz:(P.info? e).map (·.size)=some s
  by_:(P.info? e).map (·.bytes)=some bytes
  zero:((P.info? e).bind (·.zero)).map (·.cells.toList)=some zs
  pos:0<s
  len:zs.length=s
theorem El.get {bytes:Nat}{zs:List Value}(h:El P e s bytes zs): ∃i z,P.info? e=some i∧i.zero=some z∧i.size=s∧i.bytes=bytes∧z.cells=zs.toArray:=by
  obtain ⟨h1,h2,h3,_,_⟩:=h
  cases hi:P.info? e with
  | none=>rw [hi] at h1; cases h1
  | some i=>
    rw [hi] at h1 h2 h3
    cases hz:i.zero with
    | none=>simp [hz] at h3
    | some z=>
      simp at h1 h2
      simp [hz] at h3
      exact ⟨i,z,rfl,hz,h1,h2,by rw [← h3]⟩

def rQ (s len:Nat)(zs:List Value)(ps:List (Nat×Value)):Option (List Value):=(Instr.fill (fun i=>some (i * s,s)) ((Array.range (len * s)).map (zs.toArray[· % zs.toArray.size]!)) ps).map (·.toList)
theorem Ex_bs {len bytes:Nat}{zs:List Value}{parts:Array (Nat×Operand)}(hu:P.underlying t=some (.slice e))(he:El P e s bytes zs)(hsmall:len * s≤16777216)(hpos:0<len * s)
    (hf:rQ s len zs (parts.toList.map fun p=>(p.1,ev ρ p.2))=some cs):
    ∃v w',Do P ⟨d,.buildSlice t len parts,ty,pos,af,g⟩ ρ w v w'∧ ∃b,v= .slice (some ⟨b,0,none⟩) len len∧Al w w' b cs e:=by
  obtain ⟨i,z,h1,h2,h3,h4,h5⟩:=he.get
  refine ⟨_,_,?_,w.heap.size,rfl,Al.mk' w cs e⟩
  unfold Do
  unfold rQ at hf
  rw [Option.map_eq_some_iff] at hf
  obtain ⟨ca,hf,rfl⟩:=hf
  have hr:=run_buildSlice (P:=P) w t e len (parts.map fun (i,x)=>(i,ev ρ x)) ca i z hu h1 h2 (by rw [h3]; omega) (by rw [h3]; omega) (by
    rw [h3,h5,Array.toList_map]; exact hf)
  simp [execOp,hr]
theorem Ex_ms {bytes:Nat}{zs:List Value}(hu:P.underlying t=some (.slice e))(he:El P e s bytes zs)(hx:ev ρ x= .int .i64 (n:Int))(hy:ev ρ y= .int .i64 (n:Int))(h1:bytes * n≤281474976710656)(h2:n≤9223372036854775807)(h3:madeCells zs.toArray (n * s)=cs.toArray):
    ∃v w',Do P ⟨d,.makeSlice t x y,ty,pos,af,g⟩ ρ w v w'∧ ∃b,v= .slice (some ⟨b,0,none⟩) n n∧Al w w' b cs e:=by
  obtain ⟨i,z,i1,i2,i3,i4,i5⟩:=he.get
  refine ⟨_,_,?_,w.heap.size,rfl,Al.mk' w cs e⟩
  unfold Do
  have hb':(i.bytes:Int) * (n:Int)≤281474976710656:=by
    have h:((i.bytes * n:Nat):Int)≤281474976710656:=by rw [i4]; omega
    rwa [Int.natCast_mul] at h
  have hr:=run_make (P:=P) w t e i z hu i1 i2 .i64 .i64 n n (by omega) (Int.le_refl _) hb' (by omega)
  simp only [Int.toNat_natCast,i3,i5,h3] at hr
  simp [execOp,hx,hy,hr]

theorem aJd {bytes : Nat} {zs : List Value} {u : Value} (hu : P.underlying t = some (.slice e)) (he : El P e s bytes zs) (hx : ev ρ x = v) (hy : ev ρ y = u) (hown : w.ownsRow 0 e s v n xs) (hr : SlR w u s m ys)
    (h1 : ∀ u ∈ ys, u.oneCell' = true) (h63 : n + m ≤ maxLen) (hby : (n + m) * bytes ≤ 140737488355328) :
    ∃ v' w', Do P ⟨d, .call { callee := .builtin .append, args := #[x, y], argTypes := #[t, t] }, ty, pos, af, g⟩ ρ w v' w' ∧ Ap w w' v v' e s (n + m) (xs ++ ys) := by
  obtain ⟨i, z, i1, i2, i3, i4, i5⟩ := he.get
  have hd : ∀ v' w', (Builtin.append_ #[t, t] ty #[v, u]).run P w = .ok v' w' → Do P ⟨d, .call { callee := .builtin .append, args := #[x, y], argTypes := #[t, t] }, ty, pos, af, g⟩ ρ w v' w' := by
    intro v' w' h
    unfold Do; simp [execOp, resolve, invoke, builtin, hx, hy, h]
  rcases hr.2 with ⟨hu', rfl⟩ | ⟨ua, cap, hu', h2, h3, _, hc⟩
  · subst hu'
    refine ⟨v, w, hd _ _ (run_append_owned_none (P := P) (w := w) 0 t ty e i s hu i1 v n xs hown), ?_, Only.refl _ w, fun b hb => .inl hb⟩
    have : ys = [] := List.eq_nil_of_length_eq_zero (by have := hr.1; omega)
    subst this
    simpa using hown
  · subst hu'
    have hzs : z.cells.size = s := by rw [i5]; simp [he.len]
    obtain ⟨v', w', hrun, ho, hg, _⟩ := run_append_own (P := P) w 0 t ty e i z s bytes hu i1 i2 i3 i4 hzs he.pos v n xs hown ua m cap ys hr.1 (fun j u hj => hc j u hj) h1 h63 hby (Nat.zero_le _)
    refine ⟨v', w', hd _ _ hrun, ho, ⟨hg.os, hg.tape, hg.output, hg.size, fun k hk hn => hg.block k hk (fun e => hn (by rw [kK, ← vY, e]))⟩, ?_⟩
    intro b' hb'
    rcases hown.2 with ⟨rfl, rfl⟩ | ⟨g, cap', cur, rfl, hbg, hgg, hnc, hcm, hcs, htake⟩
    · obtain ⟨v2, w2, hrun2, ho2, _⟩ := run_append_own (P := P) w w.heap.size t ty e i z s bytes hu i1 i2 i3 i4 hzs he.pos (.slice none 0 0) 0 xs ⟨hown.1, .inl ⟨rfl, rfl⟩⟩ ua m cap ys hr.1 (fun j u hj => hc j u hj) h1 h63 hby (Nat.le_refl _)
      rw [hrun] at hrun2
      cases hrun2
      exact .inr (rF ho2 b' (kK.2 hb')).1
    · subst i3 i4
      by_cases hroom : n + m ≤ cap'
      · have hfit : n * i.size + ys.length ≤ cur.size := by rw [hr.1, hcs, ← Nat.add_mul]; exact Nat.mul_le_mul_right _ hroom
        have hr2 := run_append_room (P := P) w t ty e i hu i1 g n cap' cur hgg ua m cap ys hr.1 (fun j u hj => hc j u hj) h1 hroom hfit
        rw [hrun] at hr2
        cases hr2
        exact .inl hb'
      · have holds : ∀ j u, xs[j]? = some u → w.cell? ((⟨g, 0, none⟩ : Addr).add j) = some u := hown.cells (g := g) rfl
        have hr2 := run_append_grow (P := P) w t ty e i z hu i1 i2 ⟨g, 0, none⟩ n cap' xs hown.1 holds ua m cap ys hr.1 (fun j u hj => hc j u hj) (by omega) (by unfold maxLen at h63; omega) (growslice_fits (by omega) hby)
        rw [hrun] at hr2
        cases hr2
        refine .inr ?_
        have : b' = w.heap.size := by simpa [aH, eq_comm] using hb'
        omega

theorem xJ {parts:Array (Nat×Operand)}(h:(P.built t (parts.toList.map fun p=>(p.1,ev ρ p.2)))=some cs.toArray):Do P ⟨d,.build t parts,ty,pos,af,g⟩ ρ w (.agg cs.toArray) w:=by
 have hr:=run_build (P:=P) w t (parts.map fun (i,x)=>(i,ev ρ x)) cs.toArray (by rw [Array.toList_map]; exact h);unfold Do;simp [execOp,hr]

theorem aHe (w:World)(src e:TypeId)(hs:P.underlying src=some (.slice e))(he:P.underlying e=some (.int .u8))(p:Option Addr)(c:Nat):
    ∀dst,P.underlying dst=some .string→(convert src dst (.slice p 0 c)).run P w= .ok (.string ByteArray.empty) w:=by
 intro dst hd;rw [run_convert_bytes_string w src dst e _ 0 c hs he hd];cases p<;>simp [Conv.bytesToString,loadCells,loadCellsFrom]
theorem aTn (s1 s2 : ByteArray) : (s1.toList == s2.toList) = decide (s1 = s2) := by
 rw [Bool.eq_iff_iff, beq_iff_eq, decide_eq_true_eq, ByteArray.toList_eq, ByteArray.toList_eq];constructor;intro h;have := Array.ext' h;cases s1; cases s2; simp at this; rw [this];rintro rfl; rfl
theorem Do_eqlstr {s1 s2:ByteArray}(hx:ev ρ x= .string s1)(hy:ev ρ y= .string s2):Do P ⟨d,.binOp .eql t x y u,ty,pos,af,g⟩ ρ w (.bool (decide (s1=s2))) w:=by
 unfold Do; simp [execOp,hx,hy,eqGuard,binOp_string_eql,aTn]
theorem Do_neqstr {s1 s2:ByteArray}(hx:ev ρ x= .string s1)(hy:ev ρ y= .string s2):Do P ⟨d,.binOp .neq t x y u,ty,pos,af,g⟩ ρ w (.bool (decide (s1≠s2))) w:=by
 unfold Do; simp [execOp,hx,hy,eqGuard,binOp_string_neq,aTn]
end
end Go.OB
namespace Go.OB
open Go.RowKit

theorem aNu {s len:Nat}{zs vs:List Value}(hs:0<s)(h1: ∀v ∈ vs,v.cells.size=s)(hn:vs.length=len):rQ s len zs ((vs.zipIdx 0).map fun x=>(x.2,x.1))=some (vs.flatMap fun v=>v.cells.toList):=by
 unfold rQ;rw [Great.fill_whole hs vs _ h1 (by simp [hn])];rfl
theorem Blk.slr {w:World}{b:Nat}{cs:List Value}{T:TypeId}(h:Blk w b cs T)(n s:Nat)(hl:cs.length=n * s)(hm:n≤maxLen):SlR w (.slice (some ⟨b,0,none⟩) n n) s n cs:=
  ⟨hl,.inr ⟨⟨b,0,none⟩,n,rfl,Nat.le_refl _,hm,fun _=>rfl,h.cells⟩⟩
theorem SlR.at_ {w:World}{b o n c s:Nat}{xs:List Value}(h:SlR w (.slice (Option.some (⟨b,o,none⟩:Addr)) n c) s n xs):Cells w ⟨b,o,none⟩ xs:=by
  rcases h.2 with ⟨h1,_⟩ | ⟨a',c',h1,_,_,_,hc⟩
  · cases h1
  · cases h1; exact hc
theorem Blk.slo {w:World}{b o n c s:Nat}{cs xs:List Value}{T:TypeId}(h:Blk w b cs T)(e:(cs.drop o).take (n * s)=xs)(hl:xs.length=n * s)(hn:n≤c)(hc:c≤maxLen):SlR w (.slice (Option.some (⟨b,o,none⟩:Addr)) n c) s n xs:=by
 refine ⟨hl,.inr ⟨⟨b,o,none⟩,c,rfl,hn,hc,fun _=>rfl,?_⟩⟩;intro i v hv;rw [Addr.add_none];refine h.cell ?_;rw [← e,List.getElem?_take] at hv;split at hv;rwa [List.getElem?_drop] at hv;cases hv
theorem owns_some {w : World} {B e s n : Nat} {v : Value} {xs : List Value} (h : w.ownsRow B e s v n xs) (hn : 0 < n) : ∃ b cap cur, v = .slice (Option.some (⟨b, 0, none⟩ : Addr)) n cap ∧ Blk w b (xs ++ cur) e ∧ n ≤ cap ∧ cap ≤ maxLen := by
  rcases h.2 with ⟨_, h⟩ | ⟨g, cap, cur, rfl, _, hg, h2, h3, h4, h5⟩
  · omega
  · refine ⟨g, cap, cur.toList.drop (n * s), rfl, ?_, h2, h3⟩
    unfold Blk
    rw [hg, ← h5, List.take_append_drop]
theorem Ex_bs0 {P:Program}{ρ:Env}{w:World}{d:Option Tmp}{t ty e:TypeId}{pos:String}{af:Array Edge}{g:Option (Nat×Bool)}{s bytes:Nat}{zs:List Value}(hu:P.underlying t=some (.slice e))(he:El P e s bytes zs):
    ∃v w',Do P ⟨d,.buildSlice t 0 #[],ty,pos,af,g⟩ ρ w v w'∧ ∃b,v= .slice (Option.some (⟨b,0,none⟩:Addr)) 0 0∧Al w w' b [] e:=by
 obtain ⟨i,z,h1,h2,h3,h4,h5⟩:=he.get;refine ⟨_,_,?_,w.heap.size,rfl,Al.mk' w [] e⟩;unfold Do;simp [execOp,Instr.buildSlice,run_underlying hu,sizeOf,typeInfo,h1,Instr.fill,newRow,newObj,Sem.run,show Array.range 0= #[] from rfl]
theorem Blk.part {w:World}{b o n:Nat}{cs xs:List Value}{T:TypeId}(h:Blk w b cs T)(e:(cs.drop o).take n=xs):Cells w ⟨b,o,none⟩ xs:=by
 intro i v hv;rw [Addr.add_none];refine h.cell ?_;rw [← e,List.getElem?_take] at hv;split at hv;rwa [List.getElem?_drop] at hv;cases hv
end Go.OB
namespace Go.OB
open Go.RowKit
end Go.OB
namespace Go.OB
open Go.RowKit Go.ChangeShapes Go.WideShapes Go.ChangeAt
variable {H:Type} {enc:TypeId×Value→H} {P:Program} {w:World} {base:Nat} {sp:Nat→Bool} {held:Bool} {r:Reach} {b0:Nat} {t e:TypeId} {v:Value} {d:DataW H} {ps:List MemPlace} {k:IntKind}
end Go.OB
namespace Go.OB
open Go.RowKit
variable {P:Program} {w:World} {ρ:Env} {t e ty:TypeId} {s n m:Nat} {x y:Operand} {xs ys:List Value} {d:Option Nat} {pos:String} {af:Array Edge} {g:Option (Nat×Bool)}
end Go.OB
