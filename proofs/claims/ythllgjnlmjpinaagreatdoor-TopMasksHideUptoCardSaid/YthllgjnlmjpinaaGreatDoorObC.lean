/- Walks: what each function computes, for every argument; no condition but those that stand in the statements. -/
import Derived.Test.YthllgjnlmjpinaaGreatDoorObB
namespace Go.MxM
open Go.OB
open Go.RowKit

inductive Kd where
  | pure | fcall | read | new | eff
  | mk (B:Nat)
inductive Mk where
  | ptr
  | sl (n:Nat)
def Mk.val:Mk→Nat→Value
  | .ptr,b=> .pointer (some ⟨b,0,none⟩)
  | .sl n,b=> .slice (some ⟨b,0,none⟩) n n
theorem Mk.inj {m m':Mk}{b:Nat}(h:m.val b=m'.val b):m=m':=by
 cases m<;>cases m'<;>simp [Mk.val] at h ⊢;exact h
abbrev Mm:=Option (Nat→Prop)
def Kd.isMk:Kd→Bool
  | .mk _=>true | _=>false
theorem alloc_inj {w:World}{cs cs':List Value}{T T':TypeId}(h:w.alloc (.cells cs.toArray T)=w.alloc (.cells cs'.toArray T')):cs=cs'∧T=T':=by
 have h1:=(Al.mk' w cs T).blk;rw [h] at h1;have h2:=(Al.mk' w cs' T').blk;unfold Blk at h1 h2;rw [h1] at h2;simp at h2;exact h2
theorem Blk.sees {w w':World}{b:Nat}{cs:List Value}{T:TypeId}(h:Blk w b cs T)(hs:fJ w w'):Blk w' b cs T:=h.only (Only.of_below hs) (by simp)
def Kd.isPure:Kd→Bool
  | .pure=>true | _=>false
def Kd.isFcall:Kd→Bool
  | .fcall=>true | _=>false
def Kd.isRead:Kd→Bool
  | .read=>true | _=>false
def Kd.isNew:Kd→Bool
  | .new=>true | _=>false
def aAm (P:Program)(I:World→Prop)(ops:Array Oper)(o:Oper)(v:Value)(a:Act):Prop:=
  (Region.wanted o (yielded ops a.tmps)=true∧ ∀w',I w'→(execOp a.eval o).run P w'= .ok (.value v) w')∨(Region.wanted o (yielded ops a.tmps)=false∧v=undef)
def aIc (P:Program)(I:World→Prop)(ops:Array Oper)(o:Oper)(v:Value)(a:Act):Prop:=
  (Region.wanted o (yielded ops a.tmps)=true∧ ∀w',I w'→qQ P w' v ((execOp a.eval o).run P w'))∨(Region.wanted o (yielded ops a.tmps)=false∧v=undef)

def jE (M:Mm)(w:World):Prop:= ∀A,M=some A→ ∀x,A x→x<w.heap.size
theorem jE.sees {M:Mm}{w w':World}(h:jE M w)(hs:fJ w w'):jE M w':=fun A e x hx=>Nat.lt_of_lt_of_le (h A e x hx) hs.size
theorem jE.no {w:World}:jE none w:=fun _ e=>by cases e
theorem jE.mk {A:Nat→Prop}{w w':World}{b:Nat}{cs:List Value}{T:TypeId}(h:jE (some A) w)(hs:fJ w w')(hb:Blk w' b cs T):jE (some fun x=>x=b∨A x) w':=by
  intro A' e x hx
  cases e
  rcases hx with rfl | hx
  · exact (Array.getElem?_eq_some_iff.1 hb).1
  · exact (h.sees hs) A rfl x hx
theorem jE.new {A:Nat→Prop}{w:World}(h:jE (some A) w): ¬A w.heap.size:=fun hx=>Nat.lt_irrefl _ (h A rfl _ hx)

def xOp (P:Program)(I:World→Prop)(ops:Array Oper)(kd:Nat→Kd)(i:Nat)(K:Mm→Act→World→Prop)(M:Mm)(a:Act)(w:World):Prop:=
  match ops[i]? with
  | none=>False
  | some o=>match kd i with
    | .pure=> ∃v,aAm P I ops o v a∧K M (a.put o.dst v) w
    | .fcall=> ∃v,aIc P I ops o v a∧ ∀w',fJ w w'→K M (a.put o.dst v) w'
    | .read=> ∃v,rD P ops w o v a∧ ∀w',fJ w w'→K M (a.put o.dst v) w'
    | .new=>(Region.wanted o (yielded ops a.tmps)=true∧
        ((∃v w',(execOp a.eval o).run P w= .ok (.value v) w'∧fJ w w'∧ ∀w'',fJ w' w''→K M (a.put o.dst v) w'')∨
         (∃f args,(execOp a.eval o).run P w= .ok (.enter f args) w∧Calls P f args w fun e w'=> ∃v,e= .returned v∧fJ w w'∧ ∀w'',fJ w' w''→K M (a.put o.dst v) w'')))∨
        (Region.wanted o (yielded ops a.tmps)=false∧ ∀w'',fJ w w''→K M (a.put o.dst undef) w'')
    | .eff=>(Region.wanted o (yielded ops a.tmps)=true∧
        ((∃v w',(execOp a.eval o).run P w= .ok (.value v) w'∧I w'∧ ∃M',jE M' w'∧ ∀w'',fJ w' w''→K M' (a.put o.dst v) w'')∨(∃w',(execOp a.eval o).run P w= .ok .skip w'∧I w'∧ ∃M',jE M' w'∧ ∀w'',fJ w' w''→K M' (a.put o.dst undef) w'')∨
         (∃f args,(execOp a.eval o).run P w= .ok (.enter f args) w∧Calls P f args w fun e w'=> ∃v,e= .returned v∧I w'∧ ∃M',jE M' w'∧ ∀w'',fJ w' w''→K M' (a.put o.dst v) w'')))∨
        (Region.wanted o (yielded ops a.tmps)=false∧ ∀w'',fJ w w''→K M (a.put o.dst undef) w'')
    | .mk B=>(Region.wanted o (yielded ops a.tmps)=true∧ ∃(A:Nat→Prop) (m:Mk) (cs:List Value) (T:TypeId),M=some A∧(∀w',I w'→(execOp a.eval o).run P w'= .ok (.value (m.val w'.heap.size)) (w'.alloc (.cells cs.toArray T)))∧
        ∀b w'',fJ w w''→B≤b→ ¬A b→Blk w'' b cs T→K (some fun x=>x=b∨A x) (a.put o.dst (m.val b)) w'')∨
        (Region.wanted o (yielded ops a.tmps)=false∧ ∀w'',fJ w w''→K M (a.put o.dst undef) w'')

def dO (P:Program)(I:World→Prop)(ops:Array Oper)(kd:Nat→Kd)(Q:Mm→Act→World→Prop):List Nat→Mm→Act→World→Prop
  | [],M,a,w=>Q M a w
  | i :: l,M,a,w=>xOp P I ops kd i (dO P I ops kd Q l) M a w

section
variable {P:Program} {I:World→Prop} {ops:Array Oper} {kd:Nat→Kd} {Q:Mm→Act→World→Prop}

theorem aIg {i : Nat} {K K' : Mm → Act → World → Prop} {M : Mm} {a : Act} {w : World} (h : ∀ o M v w, ops[i]? = some o → K M (a.put o.dst v) w → K' M (a.put o.dst v) w) (hh : xOp P I ops kd i K M a w) : xOp P I ops kd i K' M a w := by
  unfold xOp at *
  cases ho : ops[i]? with
  | none => simp only [ho] at hh
  | some o =>
    have h := fun M v w => h o M v w ho
    simp only [ho] at hh ⊢
    cases hk : kd i <;> simp only [hk] at hh ⊢
    · obtain ⟨v, h1, h2⟩ := hh; exact ⟨v, h1, h _ _ _ h2⟩
    · obtain ⟨v, h1, h2⟩ := hh; exact ⟨v, h1, fun w' hw => h _ _ _ (h2 w' hw)⟩
    · obtain ⟨v, h1, h2⟩ := hh; exact ⟨v, h1, fun w' hw => h _ _ _ (h2 w' hw)⟩
    · rcases hh with ⟨h0, hh⟩ | ⟨h0, hh⟩
      rotate_left
      · exact .inr ⟨h0, fun w'' hw => h _ _ _ (hh w'' hw)⟩
      refine .inl ⟨h0, ?_⟩
      rcases hh with ⟨v, w', h1, h3, h2⟩ | ⟨f, args, h1, h2⟩
      · exact .inl ⟨v, w', h1, h3, fun w'' hw => h _ _ _ (h2 w'' hw)⟩
      · exact .inr ⟨f, args, h1, h2.mono fun e w' ⟨v, he, h3, hk⟩ => ⟨v, he, h3, fun w'' hw => h _ _ _ (hk w'' hw)⟩⟩
    · rcases hh with ⟨h0, hh⟩ | ⟨h0, hh⟩
      rotate_left
      · exact .inr ⟨h0, fun w'' hw => h _ _ _ (hh w'' hw)⟩
      refine .inl ⟨h0, ?_⟩
      rcases hh with ⟨v, w', h1, h3, M', hM', h2⟩ | ⟨w', h1, h3, M', hM', h2⟩ | ⟨f, args, h1, h2⟩
      · exact .inl ⟨v, w', h1, h3, M', hM', fun w'' hw => h _ _ _ (h2 w'' hw)⟩
      · exact .inr (.inl ⟨w', h1, h3, M', hM', fun w'' hw => h _ _ _ (h2 w'' hw)⟩)
      · exact .inr (.inr ⟨f, args, h1, h2.mono fun e w' ⟨v, he, h3, M', hM', hk⟩ => ⟨v, he, h3, M', hM', fun w'' hw => h _ _ _ (hk w'' hw)⟩⟩)
    · rcases hh with ⟨h0, A, m, cs, T, hA, h1, h2⟩ | ⟨h0, hh⟩
      · exact .inl ⟨h0, A, m, cs, T, hA, h1, fun b w'' q1 q2 q3 q4 => h _ _ _ (h2 b w'' q1 q2 q3 q4)⟩
      · exact .inr ⟨h0, fun w'' hw => h _ _ _ (hh w'' hw)⟩

theorem sK {i:Nat}{K K':Mm→Act→World→Prop}(h: ∀M a w,K M a w→K' M a w){M:Mm}{a:Act}{w:World}(hh:xOp P I ops kd i K M a w):xOp P I ops kd i K' M a w:=aIg (fun _ _ _ _ _=>h _ _ _) hh

theorem aTw {i : Nat} {K : Mm → Act → World → Prop} {M : Mm} {a : Act} {w : World} (hI : ∀ w w', I w → fJ w w' → I w') (hw : I w) (hM : jE M w) (hh : xOp P I ops kd i K M a w) : xOp P I ops kd i (fun M a w => I w ∧ jE M w ∧ K M a w) M a w := by
  unfold xOp at *
  cases ho : ops[i]? with
  | none => simp only [ho] at hh
  | some o =>
    simp only [ho] at hh ⊢
    cases hk : kd i <;> simp only [hk] at hh ⊢
    · obtain ⟨v, h1, h2⟩ := hh; exact ⟨v, h1, hw, hM, h2⟩
    · obtain ⟨v, h1, h2⟩ := hh; exact ⟨v, h1, fun w' hs => ⟨hI _ _ hw hs, hM.sees hs, h2 w' hs⟩⟩
    · obtain ⟨v, h1, h2⟩ := hh; exact ⟨v, h1, fun w' hs => ⟨hI _ _ hw hs, hM.sees hs, h2 w' hs⟩⟩
    · rcases hh with ⟨h0, hh⟩ | ⟨h0, hh⟩
      rotate_left
      · exact .inr ⟨h0, fun w'' hs => ⟨hI _ _ hw hs, hM.sees hs, hh w'' hs⟩⟩
      refine .inl ⟨h0, ?_⟩
      rcases hh with ⟨v, w', h1, h3, h2⟩ | ⟨f, args, h1, h2⟩
      · exact .inl ⟨v, w', h1, h3, fun w'' hs => ⟨hI _ _ (hI _ _ hw h3) hs, (hM.sees h3).sees hs, h2 w'' hs⟩⟩
      · exact .inr ⟨f, args, h1, h2.mono fun e w' ⟨v, he, h3, hk⟩ => ⟨v, he, h3, fun w'' hs => ⟨hI _ _ (hI _ _ hw h3) hs, (hM.sees h3).sees hs, hk w'' hs⟩⟩⟩
    · rcases hh with ⟨h0, hh⟩ | ⟨h0, hh⟩
      rotate_left
      · exact .inr ⟨h0, fun w'' hs => ⟨hI _ _ hw hs, hM.sees hs, hh w'' hs⟩⟩
      refine .inl ⟨h0, ?_⟩
      rcases hh with ⟨v, w', h1, h3, M', hM', h2⟩ | ⟨w', h1, h3, M', hM', h2⟩ | ⟨f, args, h1, h2⟩
      · exact .inl ⟨v, w', h1, h3, M', hM', fun w'' hs => ⟨hI _ _ h3 hs, hM'.sees hs, h2 w'' hs⟩⟩
      · exact .inr (.inl ⟨w', h1, h3, M', hM', fun w'' hs => ⟨hI _ _ h3 hs, hM'.sees hs, h2 w'' hs⟩⟩)
      · exact .inr (.inr ⟨f, args, h1, h2.mono fun e w' ⟨v, he, h3, M', hM', hk⟩ => ⟨v, he, h3, M', hM', fun w'' hs => ⟨hI _ _ h3 hs, hM'.sees hs, hk w'' hs⟩⟩⟩)
    · rcases hh with ⟨h0, A, m, cs, T, hA, h1, h2⟩ | ⟨h0, hh⟩
      · subst hA; exact .inl ⟨h0, A, m, cs, T, rfl, h1, fun b w'' q1 q2 q3 q4 => ⟨hI _ _ hw q1, hM.mk q1 q4, h2 b w'' q1 q2 q3 q4⟩⟩
      · exact .inr ⟨h0, fun w'' hs => ⟨hI _ _ hw hs, hM.sees hs, hh w'' hs⟩⟩
theorem aEt {i : Nat} {o : Oper} (ho : ops[i]? = some o) {K : Act → World → Prop} {Qx : Exit → Act → World → Prop} {a : Act} {w : World} {v : Value}
    (hy : (Region.wanted o (yielded ops a.tmps) = true ∧ qQ P w v ((execOp a.eval o).run P w)) ∨ (Region.wanted o (yielded ops a.tmps) = false ∧ v = undef)) (hK : ∀ w', fJ w w' → K (a.put o.dst v) w') : wpOp P ops Qx i K a w := by
  unfold wpOp
  simp only [ho]
  rcases hy with ⟨hw, this⟩ | ⟨hw, rfl⟩
  · rw [if_pos hw]
    refine .inl ?_
    unfold Oper.wp
    generalize (execOp a.eval o).run P w = r at this
    cases r with
    | ok n w' =>
      cases n <;> simp only [qQ] at this <;> simp only [Oper.upon]
      case value u => obtain ⟨rfl, rfl⟩ := this; exact hK _ (fJ.refl _)
      case skip => obtain ⟨rfl, rfl⟩ := this; exact hK _ (fJ.refl _)
      case enter f args =>
        obtain ⟨rfl, hc⟩ := this
        exact hc.mono fun e w'' ⟨he, hs⟩ => by subst he; exact hK _ hs
    | halt x w' => simp only [qQ] at this
  · rw [if_neg (by rw [hw]; exact Bool.false_ne_true)]; exact hK _ (fJ.refl _)
theorem sees_alloc (w:World)(o:Obj):fJ w (w.alloc o):=(Below.refl _ w).alloc (Nat.le_refl _) _
theorem aBc {i : Nat} {K : Mm → Act → World → Prop} {Qx : Exit → Act → World → Prop} {M : Mm} {a : Act} {w : World} (hB : ∀ i B, kd i = .mk B → ∀ w, I w → B ≤ w.heap.size) (hI : ∀ w w', I w → fJ w w' → I w') (hw : I w) (hM : jE M w) (h : xOp P I ops kd i K M a w) : wpOp P ops Qx i (fun a w => ∃ M, I w ∧ jE M w ∧ K M a w) a w := by
  unfold xOp at h
  cases ho : ops[i]? with
  | none => simp only [ho] at h
  | some o =>
    simp only [ho] at h
    cases hk : kd i <;> simp only [hk] at h
    · obtain ⟨v, hy, hK⟩ := h
      unfold wpOp
      simp only [ho]
      rcases hy with ⟨q1, q2⟩ | ⟨q1, rfl⟩
      · rw [if_pos q1]
        refine .inl ?_
        unfold Oper.wp
        rw [q2 w hw]; exact ⟨M, hw, hM, hK⟩
      · rw [if_neg (by rw [q1]; exact Bool.false_ne_true)]; exact ⟨M, hw, hM, hK⟩
    · obtain ⟨v, hy, hK⟩ := h
      exact aEt ho (hy.imp (fun ⟨q1, q2⟩ => ⟨q1, q2 w hw⟩) id) fun w' hs => ⟨M, hI _ _ hw hs, hM.sees hs, hK w' hs⟩
    · obtain ⟨v, hy, hK⟩ := h
      exact aEt ho (hy.imp (fun ⟨q1, q2⟩ => ⟨q1, q2 w (fJ.refl w)⟩) id) fun w' hs => ⟨M, hI _ _ hw hs, hM.sees hs, hK w' hs⟩
    · unfold wpOp
      simp only [ho]
      rcases h with ⟨h0, h⟩ | ⟨h0, h⟩
      rotate_left
      · rw [if_neg (by rw [h0]; exact Bool.false_ne_true)]; exact ⟨M, hw, hM, h _ (fJ.refl _)⟩
      rw [if_pos h0]
      refine .inl ?_
      unfold Oper.wp
      rcases h with ⟨v, w', h1, h3, h2⟩ | ⟨f, args, h1, h2⟩
      · rw [h1]; exact ⟨M, hI _ _ hw h3, hM.sees h3, h2 _ (fJ.refl _)⟩
      · rw [h1]; exact h2.mono fun e w' ⟨v, he, h3, hk⟩ => by subst he; exact ⟨M, hI _ _ hw h3, hM.sees h3, hk _ (fJ.refl _)⟩
    · unfold wpOp
      simp only [ho]
      rcases h with ⟨h0, h⟩ | ⟨h0, h⟩
      rotate_left
      · rw [if_neg (by rw [h0]; exact Bool.false_ne_true)]; exact ⟨M, hw, hM, h _ (fJ.refl _)⟩
      rw [if_pos h0]
      refine .inl ?_
      unfold Oper.wp
      rcases h with ⟨v, w', h1, h3, M', hM', h2⟩ | ⟨w', h1, h3, M', hM', h2⟩ | ⟨f, args, h1, h2⟩
      · rw [h1]; exact ⟨M', h3, hM', h2 _ (fJ.refl _)⟩
      · rw [h1]; exact ⟨M', h3, hM', h2 _ (fJ.refl _)⟩
      · rw [h1]; exact h2.mono fun e w' ⟨v, he, h3, M', hM', hk⟩ => by subst he; exact ⟨M', h3, hM', hk _ (fJ.refl _)⟩
    · unfold wpOp
      simp only [ho]
      rcases h with ⟨h0, A, m, cs, T, rfl, h1, h2⟩ | ⟨h0, h⟩
      · rw [if_pos h0]
        refine .inl ?_
        unfold Oper.wp
        rw [h1 w hw]
        have hs := sees_alloc w (.cells cs.toArray T)
        exact ⟨_, hI _ _ hw hs, hM.mk hs (Al.mk' w cs T).blk, h2 _ _ hs (hB i _ hk w hw) hM.new (Al.mk' w cs T).blk⟩
      · rw [if_neg (by rw [h0]; exact Bool.false_ne_true)]; exact ⟨M, hw, hM, h _ (fJ.refl _)⟩

theorem aAm.of_same {o:Oper}{v:Value}{a a':Act}(hy:aAm P I ops o v a)(he:execOp a'.eval o=execOp a.eval o)
    (hw:Region.wanted o (yielded ops a'.tmps)=Region.wanted o (yielded ops a.tmps)):aAm P I ops o v a':=by
 unfold aAm at *; rw [he,hw]; exact hy
theorem aIc.of_same {o:Oper}{v:Value}{a a':Act}(hy:aIc P I ops o v a)(he:execOp a'.eval o=execOp a.eval o)
    (hw:Region.wanted o (yielded ops a'.tmps)=Region.wanted o (yielded ops a.tmps)):aIc P I ops o v a':=by
 unfold aIc at *; rw [he,hw]; exact hy
def uA (ops:Array Oper)(kd:Nat→Kd)(i j:Nat):Bool:=
  match ops[i]?,ops[j]? with
  | some oi,some oj=>oi.apart ops oj && oj.apart ops oi && ((kd i).isPure || (kd j).isPure || (kd i).isFcall || ((kd i).isRead && ((kd j).isFcall || (kd j).isRead || (kd j).isNew || (kd j).isMk)) || ((kd i).isMk && (kd j).isMk))
  | _,_=>false

theorem aLq {i : Nat} {oi oj : Oper} (hi : ops[i]? = some oi) (hij : oi.apart ops oj = true) (hsi : ∀ cs b, oi.op ≠ .select cs b) {u : Value}
    {K : Mm → Act → World → Prop} {M : Mm} {a : Act} {w : World} (h : xOp P I ops kd i (fun M a' w' => K M (a'.put oj.dst u) w') M a w) : xOp P I ops kd i K M (a.put oj.dst u) w := by
  obtain ⟨h1, h2, h3⟩ := Oper.apart_spec hij
  have he : execOp (a.put oj.dst u).eval oi = execOp a.eval oi := execOp_put oi hsi a oj.dst u h3
  have hw : Region.wanted oi (yielded ops (a.put oj.dst u).tmps) = Region.wanted oi (yielded ops a.tmps) := wanted_put oi a oj.dst u h3
  have hc : ∀ v, (a.put oj.dst u).put oi.dst v = (a.put oi.dst v).put oj.dst u := fun v => (Act.put_comm a v u h2).symm
  unfold xOp at *
  simp only [hi] at h ⊢
  cases hk : kd i <;> simp only [hk] at h ⊢
  · obtain ⟨v, hy, hK⟩ := h; exact ⟨v, hy.of_same he hw, by rw [hc]; exact hK⟩
  · obtain ⟨v, hy, hK⟩ := h; exact ⟨v, hy.of_same he hw, fun w' hs => by rw [hc]; exact hK w' hs⟩
  · obtain ⟨v, hy, hK⟩ := h; exact ⟨v, hy.of_same he hw, fun w' hs => by rw [hc]; exact hK w' hs⟩
  · rw [he, hw]
    rcases h with ⟨h0, h⟩ | ⟨h0, h⟩
    rotate_left
    · exact .inr ⟨h0, fun w'' hs => by rw [hc]; exact h w'' hs⟩
    refine .inl ⟨h0, ?_⟩
    rcases h with ⟨v, w', h1, h3, h2⟩ | ⟨f, args, h1, h2⟩
    · exact .inl ⟨v, w', h1, h3, fun w'' hs => by rw [hc]; exact h2 w'' hs⟩
    · exact .inr ⟨f, args, h1, h2.mono fun e w' ⟨v, he, h3, hk⟩ => ⟨v, he, h3, fun w'' hs => by rw [hc]; exact hk w'' hs⟩⟩
  · rw [he, hw]
    rcases h with ⟨h0, h⟩ | ⟨h0, h⟩
    rotate_left
    · exact .inr ⟨h0, fun w'' hs => by rw [hc]; exact h w'' hs⟩
    refine .inl ⟨h0, ?_⟩
    rcases h with ⟨v, w', h1, h3, M', hM', h2⟩ | ⟨w', h1, h3, M', hM', h2⟩ | ⟨f, args, h1, h2⟩
    · exact .inl ⟨v, w', h1, h3, M', hM', fun w'' hs => by rw [hc]; exact h2 w'' hs⟩
    · exact .inr (.inl ⟨w', h1, h3, M', hM', fun w'' hs => by rw [hc]; exact h2 w'' hs⟩)
    · exact .inr (.inr ⟨f, args, h1, h2.mono fun e w' ⟨v, he, h3, M', hM', hk⟩ => ⟨v, he, h3, M', hM', fun w'' hs => by rw [hc]; exact hk w'' hs⟩⟩)
  · rw [he, hw]
    rcases h with ⟨h0, A, m, cs, T, hA, h1, h2⟩ | ⟨h0, h⟩
    · exact .inl ⟨h0, A, m, cs, T, hA, h1, fun b w'' q1 q2 q3 q4 => by rw [hc]; exact h2 b w'' q1 q2 q3 q4⟩
    · exact .inr ⟨h0, fun w'' hs => by rw [hc]; exact h w'' hs⟩
theorem tY {i : Nat} {oi oj : Oper} (hi : ops[i]? = some oi) (hij : oi.apart ops oj = true) (hsi : ∀ cs b, oi.op ≠ .select cs b) {u : Value}
    {K : Mm → Act → World → Prop} {M : Mm} {a : Act} {w : World} (h : xOp P I ops kd i K M (a.put oj.dst u) w) : xOp P I ops kd i (fun M a' w' => K M (a'.put oj.dst u) w') M a w := by
  obtain ⟨h1, h2, h3⟩ := Oper.apart_spec hij
  have he : execOp (a.put oj.dst u).eval oi = execOp a.eval oi := execOp_put oi hsi a oj.dst u h3
  have hw : Region.wanted oi (yielded ops (a.put oj.dst u).tmps) = Region.wanted oi (yielded ops a.tmps) := wanted_put oi a oj.dst u h3
  have hc : ∀ v, (a.put oj.dst u).put oi.dst v = (a.put oi.dst v).put oj.dst u := fun v => (Act.put_comm a v u h2).symm
  unfold xOp at *
  simp only [hi] at h ⊢
  cases hk : kd i <;> simp only [hk] at h ⊢
  · obtain ⟨v, hy, hK⟩ := h; exact ⟨v, hy.of_same he.symm hw.symm, by rw [← hc]; exact hK⟩
  · obtain ⟨v, hy, hK⟩ := h; exact ⟨v, hy.of_same he.symm hw.symm, fun w' hs => by rw [← hc]; exact hK w' hs⟩
  · obtain ⟨v, hy, hK⟩ := h; exact ⟨v, hy.of_same he.symm hw.symm, fun w' hs => by rw [← hc]; exact hK w' hs⟩
  · rw [he, hw] at h
    rcases h with ⟨h0, h⟩ | ⟨h0, h⟩
    rotate_left
    · exact .inr ⟨h0, fun w'' hs => by rw [← hc]; exact h w'' hs⟩
    refine .inl ⟨h0, ?_⟩
    rcases h with ⟨v, w', h1, h3, h2⟩ | ⟨f, args, h1, h2⟩
    · exact .inl ⟨v, w', h1, h3, fun w'' hs => by rw [← hc]; exact h2 w'' hs⟩
    · exact .inr ⟨f, args, h1, h2.mono fun e w' ⟨v, he, h3, hk⟩ => ⟨v, he, h3, fun w'' hs => by rw [← hc]; exact hk w'' hs⟩⟩
  · rw [he, hw] at h
    rcases h with ⟨h0, h⟩ | ⟨h0, h⟩
    rotate_left
    · exact .inr ⟨h0, fun w'' hs => by rw [← hc]; exact h w'' hs⟩
    refine .inl ⟨h0, ?_⟩
    rcases h with ⟨v, w', h1, h3, M', hM', h2⟩ | ⟨w', h1, h3, M', hM', h2⟩ | ⟨f, args, h1, h2⟩
    · exact .inl ⟨v, w', h1, h3, M', hM', fun w'' hs => by rw [← hc]; exact h2 w'' hs⟩
    · exact .inr (.inl ⟨w', h1, h3, M', hM', fun w'' hs => by rw [← hc]; exact h2 w'' hs⟩)
    · exact .inr (.inr ⟨f, args, h1, h2.mono fun e w' ⟨v, he, h3, M', hM', hk⟩ => ⟨v, he, h3, M', hM', fun w'' hs => by rw [← hc]; exact hk w'' hs⟩⟩)
  · rw [he, hw] at h
    rcases h with ⟨h0, A, m, cs, T, hA, h1, h2⟩ | ⟨h0, h⟩
    · exact .inl ⟨h0, A, m, cs, T, hA, h1, fun b w'' q1 q2 q3 q4 => by rw [← hc]; exact h2 b w'' q1 q2 q3 q4⟩
    · exact .inr ⟨h0, fun w'' hs => by rw [← hc]; exact h w'' hs⟩

theorem aGs {i : Nat} {oi : Oper} (hi : ops[i]? = some oi) {K : Mm → Act → World → Prop} {M : Mm} {a : Act} {w : World} (hB : ∀ i B, kd i = .mk B → ∀ w, I w → B ≤ w.heap.size) (hI : ∀ w w', I w → fJ w w' → I w') (hw : I w) (hM : jE M w) (h : xOp P I ops kd i K M a w) : ∃ v w' M', I w' ∧ K M' (a.put oi.dst v) w' := by
  unfold xOp at h
  simp only [hi] at h
  cases hk : kd i <;> simp only [hk] at h
  · obtain ⟨v, _, hK⟩ := h; exact ⟨v, w, _, hw, hK⟩
  · obtain ⟨v, _, hK⟩ := h; exact ⟨v, w, _, hw, hK w (fJ.refl w)⟩
  · obtain ⟨v, _, hK⟩ := h; exact ⟨v, w, _, hw, hK w (fJ.refl w)⟩
  · rcases h with h | ⟨_, h⟩
    rotate_left
    · exact ⟨_, w, _, hw, h _ (fJ.refl _)⟩
    rcases h.2 with ⟨v, w', _, h3, h2⟩ | ⟨f, args, _, h2⟩
    · exact ⟨v, w', _, hI _ _ hw h3, h2 _ (fJ.refl _)⟩
    · obtain ⟨e, w', fr, ⟨v, _, h3, hk⟩, _⟩ := h2 []; exact ⟨v, w', _, hI _ _ hw h3, hk _ (fJ.refl _)⟩
  · rcases h with h | ⟨_, h⟩
    rotate_left
    · exact ⟨_, w, _, hw, h _ (fJ.refl _)⟩
    rcases h.2 with ⟨v, w', _, h3, M', hM', h2⟩ | ⟨w', _, h3, M', hM', h2⟩ | ⟨f, args, _, h2⟩
    · exact ⟨v, w', _, h3, h2 _ (fJ.refl _)⟩
    · exact ⟨_, w', _, h3, h2 _ (fJ.refl _)⟩
    · obtain ⟨e, w', fr, ⟨v, _, h3, M', hM', hk⟩, _⟩ := h2 []; exact ⟨v, w', _, h3, hk _ (fJ.refl _)⟩
  · rcases h with ⟨h0, A, m, cs, T, rfl, h1, h2⟩ | ⟨_, h⟩
    · have hs := sees_alloc w (.cells cs.toArray T)
      exact ⟨_, _, _, hI _ _ hw hs, h2 _ _ hs (hB i _ hk w hw) hM.new (Al.mk' w cs T).blk⟩
    · exact ⟨_, w, _, hw, h _ (fJ.refl _)⟩
theorem aLt {j : Nat} {oj : Oper} (hj : ops[j]? = some oj) (hnp : kd j ≠ .pure) {K K' : Mm → Act → World → Prop} {M : Mm} {a : Act} {w : World}
    (h : xOp P I ops kd j K M a w) (hn : ∀ u M w1 w', (kd j = .fcall ∨ kd j = .read ∨ kd j = .new ∨ (kd j).isMk = true → fJ w w1) → (∀ w'', fJ w1 w'' → K M (a.put oj.dst u) w'') → fJ w1 w' → K' M (a.put oj.dst u) w') : xOp P I ops kd j K' M a w := by
  unfold xOp at *
  simp only [hj] at h ⊢
  cases hk : kd j <;> simp only [hk] at h ⊢ <;> simp only [hk] at hn
  · exact absurd hk hnp
  · obtain ⟨v, hy, hK⟩ := h; exact ⟨v, hy, fun w' hs => hn v _ w w' (fun _ => fJ.refl w) hK hs⟩
  · obtain ⟨v, hy, hK⟩ := h; exact ⟨v, hy, fun w' hs => hn v _ w w' (fun _ => fJ.refl w) hK hs⟩
  · rcases h with ⟨h0, h⟩ | ⟨h0, h⟩
    rotate_left
    · exact .inr ⟨h0, fun w' hs => hn _ _ w w' (fun _ => fJ.refl w) h hs⟩
    refine .inl ⟨h0, ?_⟩
    rcases h with ⟨v, w', h1, h3, h2⟩ | ⟨f, args, h1, h2⟩
    · exact .inl ⟨v, w', h1, h3, fun w'' hs => hn v _ w' w'' (fun _ => h3) h2 hs⟩
    · exact .inr ⟨f, args, h1, h2.mono fun e w' ⟨v, he, h3, hk⟩ => ⟨v, he, h3, fun w'' hs => hn v _ w' w'' (fun _ => h3) hk hs⟩⟩
  · rcases h with ⟨h0, h⟩ | ⟨h0, h⟩
    rotate_left
    · exact .inr ⟨h0, fun w' hs => hn _ _ w w' (fun _ => fJ.refl w) h hs⟩
    refine .inl ⟨h0, ?_⟩
    rcases h with ⟨v, w', h1, h3, M', hM', h2⟩ | ⟨w', h1, h3, M', hM', h2⟩ | ⟨f, args, h1, h2⟩
    · exact .inl ⟨v, w', h1, h3, M', hM', fun w'' hs => hn v _ w' w'' (fun h => by simp [Kd.isMk] at h) h2 hs⟩
    · exact .inr (.inl ⟨w', h1, h3, M', hM', fun w'' hs => hn _ _ w' w'' (fun h => by simp [Kd.isMk] at h) h2 hs⟩)
    · exact .inr (.inr ⟨f, args, h1, h2.mono fun e w' ⟨v, he, h3, M', hM', hk⟩ => ⟨v, he, h3, M', hM', fun w'' hs => hn v _ w' w'' (fun h => by simp [Kd.isMk] at h) hk hs⟩⟩)
  · rcases h with ⟨h0, A, m, cs, T, hA, h1, h2⟩ | ⟨h0, h⟩
    · exact .inl ⟨h0, A, m, cs, T, hA, h1, fun b w'' q1 q2 q5 q3 => hn _ _ w'' w'' (fun _ => q1) (fun w3 q4 => h2 b w3 (q1.trans q4) q2 q5 (q3.sees q4)) (fJ.refl _)⟩
    · exact .inr ⟨h0, fun w' hs => hn _ _ w w' (fun _ => fJ.refl w) h hs⟩

theorem xSwap {i j : Nat} (hB : ∀ i B, kd i = .mk B → ∀ w, I w → B ≤ w.heap.size) (hm : uA ops kd i j = true) (hs : ∀ (k : Nat) (o : Oper) cs b, ops[k]? = some o → o.op ≠ .select cs b) (hI : ∀ w w', I w → fJ w w' → I w') {K : Mm → Act → World → Prop} {M : Mm} {a : Act} {w : World} (hw : I w) (hM : jE M w)
    (h : xOp P I ops kd i (xOp P I ops kd j K) M a w) : xOp P I ops kd j (xOp P I ops kd i K) M a w := by
  unfold uA at hm
  cases hi : ops[i]? with
  | none => simp [hi] at hm
  | some oi =>
    cases hj : ops[j]? with
    | none => simp [hi, hj] at hm
    | some oj =>
      simp only [hi, hj, Bool.and_eq_true, Bool.or_eq_true] at hm
      obtain ⟨⟨hij, hji⟩, hk⟩ := hm
      have hsi := fun cs b => hs i oi cs b hi
      have hsj := fun cs b => hs j oj cs b hj
      obtain ⟨i1, i2, i3⟩ := Oper.apart_spec hij
      obtain ⟨j1, j2, j3⟩ := Oper.apart_spec hji
      have ei : ∀ {u : Value} {a : Act}, execOp (a.put oj.dst u).eval oi = execOp a.eval oi := execOp_put _ hsi _ _ _ i3
      have wi : ∀ {u : Value} {a : Act}, Region.wanted oi (yielded ops (a.put oj.dst u).tmps) = Region.wanted oi (yielded ops a.tmps) := wanted_put _ _ _ _ i3
      have ej : ∀ {u : Value} {a : Act}, execOp (a.put oi.dst u).eval oj = execOp a.eval oj := execOp_put _ hsj _ _ _ j3
      have wj : ∀ {u : Value} {a : Act}, Region.wanted oj (yielded ops (a.put oi.dst u).tmps) = Region.wanted oj (yielded ops a.tmps) := wanted_put _ _ _ _ j3
      have h0 := h
      by_cases hpj : (kd j).isPure = true
      · have hkj : kd j = .pure := by cases h' : kd j <;> simp_all [Kd.isPure]
        obtain ⟨v0, w0, M0, hw0, h1⟩ := aGs hi hB hI hw hM h
        unfold xOp at h1
        simp only [hj, hkj] at h1
        obtain ⟨u, hy, _⟩ := h1
        have hy0 : aAm P I ops oj u a := hy.of_same ej.symm wj.symm
        have hu : ∀ {M' : Mm} {a' : Act} {w' : World}, Region.wanted oj (yielded ops a'.tmps) = Region.wanted oj (yielded ops a.tmps) → execOp a'.eval oj = execOp a.eval oj → xOp P I ops kd j K M' a' w' → K M' (a'.put oj.dst u) w' := by
          intro M' a' w' hw' he' hx
          unfold xOp at hx
          simp only [hj, hkj] at hx
          obtain ⟨u', hy', hk'⟩ := hx
          have : u' = u := by
            have hy2 : aAm P I ops oj u' a := hy'.of_same he'.symm hw'.symm
            rcases hy2 with ⟨q1, q2⟩ | ⟨q1, q2⟩ <;> rcases hy0 with ⟨r1, r2⟩ | ⟨r1, r2⟩
            · have := (q2 w hw).symm.trans (r2 w hw); injection this with this; injection this
            · rw [q1] at r1; cases r1
            · rw [q1] at r1; cases r1
            · rw [q2, r2]
          rw [← this]; exact hk'
        have h2 : xOp P I ops kd i (fun M a' w' => K M (a'.put oj.dst u) w') M a w := aIg (fun o M v w' ho hx => by rw [hi] at ho; cases ho; exact hu wj ej hx) h
        conv => unfold xOp
        simp only [hj, hkj]
        exact ⟨u, hy0, aLq hi hij hsi h2⟩
      have hnp : kd j ≠ .pure := fun e => hpj (by rw [e]; rfl)
      by_cases hpi : (kd i).isPure = true
      · have hki : kd i = .pure := by cases h' : kd i <;> simp_all [Kd.isPure]
        unfold xOp at h
        simp only [hi, hki] at h
        obtain ⟨v, hy, hK⟩ := h
        refine aLt hj hnp (tY hj hji hsj hK) fun u M w1 w' _ h2 h3 => ?_
        unfold xOp
        simp only [hi, hki]
        exact ⟨v, hy.of_same ei wi, h2 w' h3⟩
      by_cases hfi : (kd i).isFcall = true
      · have hki : kd i = .fcall := by cases h' : kd i <;> simp_all [Kd.isFcall]
        unfold xOp at h
        simp only [hi, hki] at h
        obtain ⟨v, hy, hK⟩ := h
        refine aLt hj hnp (tY hj hji hsj (hK w (fJ.refl w))) fun u M w1 w' _ h2 h3 => ?_
        unfold xOp
        simp only [hi, hki]
        exact ⟨v, hy.of_same ei wi, fun w3 h4 => h2 w3 (h3.trans h4)⟩
      by_cases hmi : (kd i).isMk = true
      · have hmj : (kd j).isMk = true := by cases h' : kd i <;> cases h'' : kd j <;> simp_all [Kd.isPure, Kd.isFcall, Kd.isRead, Kd.isNew, Kd.isMk]
        obtain ⟨Bi, hki⟩ : ∃ B, kd i = .mk B := by cases h' : kd i <;> simp_all [Kd.isMk]
        obtain ⟨Bj, hkj⟩ : ∃ B, kd j = .mk B := by cases h' : kd j <;> simp_all [Kd.isMk]
        have hc : ∀ v u, (a.put oj.dst u).put oi.dst v = (a.put oi.dst v).put oj.dst u := fun v u => (Act.put_comm a v u i2).symm
        unfold xOp at h
        simp only [hi, hki] at h
        unfold xOp
        simp only [hj, hkj]
        rcases h with ⟨hi0, Ai, mi, ci, Ti, rfl, ri, Ki⟩ | ⟨hi0, Ki⟩
        · have hs1 := sees_alloc w (.cells ci.toArray Ti)
          have hx := Ki _ _ hs1 (hB i _ hki w hw) hM.new (Al.mk' w ci Ti).blk
          unfold xOp at hx
          simp only [hj, hkj, wj, ej] at hx
          rcases hx with ⟨hj0, Aj, mj, cj, Tj, _, rj, _⟩ | ⟨hj0, _⟩
          · refine .inl ⟨hj0, Ai, mj, cj, Tj, rfl, rj, fun b w'' q1 q2 q0 q3 => ?_⟩
            simp only [hi, hki, wi, ei]
            refine .inl ⟨hi0, _, mi, ci, Ti, rfl, ri, fun b' w3 q4 q5 q7 q6 => ?_⟩
            have hx := Ki b' w3 (q1.trans q4) q5 (fun h => q7 (.inr h)) q6
            unfold xOp at hx
            simp only [hj, hkj, wj, ej] at hx
            rcases hx with ⟨_, Aj', mj', cj', Tj', hA', rj', Kj⟩ | ⟨hj1, _⟩
            · have hw3 := hI _ _ hw (q1.trans q4)
              have e := (rj' w3 hw3).symm.trans (rj w3 hw3)
              injection e with e1 e2
              injection e1 with e1
              obtain rfl := Mk.inj e1
              obtain ⟨rfl, rfl⟩ := alloc_inj e2
              cases hA'
              rw [hc]
              have hk := Kj b w3 (fJ.refl w3) q2 (fun h => h.elim (fun h => q7 (.inl h.symm)) q0) (q3.sees q4)
              have hE : (fun x => x = b ∨ x = b' ∨ Ai x) = (fun x => x = b' ∨ x = b ∨ Ai x) := funext fun x => propext ⟨fun h => h.elim (fun h => .inr (.inl h)) fun h => h.elim .inl fun h => .inr (.inr h), fun h => h.elim (fun h => .inr (.inl h)) fun h => h.elim .inl fun h => .inr (.inr h)⟩
              rw [hE] at hk
              exact hk
            · rw [hj0] at hj1; cases hj1
          · refine .inr ⟨hj0, fun w'' q1 => ?_⟩
            simp only [hi, hki, wi, ei]
            refine .inl ⟨hi0, Ai, mi, ci, Ti, rfl, ri, fun b' w3 q4 q5 q7 q6 => ?_⟩
            have hx := Ki b' w3 (q1.trans q4) q5 q7 q6
            unfold xOp at hx
            simp only [hj, hkj, wj, ej] at hx
            rcases hx with ⟨hj1, _⟩ | ⟨_, Kj⟩
            · rw [hj0] at hj1; cases hj1
            · rw [hc]; exact Kj w3 (fJ.refl w3)
        · have hx := Ki w (fJ.refl w)
          unfold xOp at hx
          simp only [hj, hkj, wj, ej] at hx
          rcases hx with ⟨hj0, Aj, mj, cj, Tj, rfl, rj, Kj⟩ | ⟨hj0, Kj⟩
          · refine .inl ⟨hj0, Aj, mj, cj, Tj, rfl, rj, fun b w'' q1 q2 q0 q3 => ?_⟩
            simp only [hi, hki, wi, ei]
            exact .inr ⟨hi0, fun w3 q4 => by rw [hc]; exact Kj b w3 (q1.trans q4) q2 q0 (q3.sees q4)⟩
          · refine .inr ⟨hj0, fun w'' q1 => ?_⟩
            simp only [hi, hki, wi, ei]
            exact .inr ⟨hi0, fun w3 q4 => by rw [hc]; exact Kj w3 (q1.trans q4)⟩
      have hki : kd i = .read := by cases h' : kd i <;> simp_all [Kd.isPure, Kd.isFcall, Kd.isRead, Kd.isNew, Kd.isMk]
      have hkj : kd j = .fcall ∨ kd j = .read ∨ kd j = .new ∨ (kd j).isMk = true := by cases h' : kd j <;> simp_all [Kd.isPure, Kd.isFcall, Kd.isRead, Kd.isNew, Kd.isMk]
      unfold xOp at h
      simp only [hi, hki] at h
      obtain ⟨v, hy, hK⟩ := h
      refine aLt hj hnp (tY hj hji hsj (hK w (fJ.refl w))) fun u M w1 w' q h2 h3 => ?_
      unfold xOp
      simp only [hi, hki]
      exact ⟨v, (hy.sees ((q hkj).trans h3)).of_same ei wi, fun w3 h4 => h2 w3 (h3.trans h4)⟩

theorem uG (hB: ∀i B,kd i= .mk B→ ∀w,I w→B≤w.heap.size)(hs: ∀(k:Nat) (o:Oper) cs b,ops[k]? =some o→o.op≠ .select cs b)(hI: ∀w w',I w→fJ w w'→I w')(i:Nat)(post:List Nat): ∀(pre:List Nat) (M:Mm) (a:Act) (w:World),I w→jE M w→(∀p ∈ pre,uA ops kd p i=true)→
    dO P I ops kd Q (pre++i :: post) M a w→dO P I ops kd Q (i :: (pre++post)) M a w
  | [],_,_,_,_,_,_,h=>h
  | p :: pre,M,a,w,hw,hM,hm,h=>by
    have h1:xOp P I ops kd p (fun M a w=>I w∧jE M w∧dO P I ops kd Q (pre++i :: post) M a w) M a w:=aTw hI hw hM h
    have h2:xOp P I ops kd p (dO P I ops kd Q (i :: (pre++post))) M a w:=sK (fun M a w h=>uG hB hs hI i post pre M a w h.1 h.2.1 (fun q hq=>hm q (List.mem_cons_of_mem _ hq)) h.2.2) h1
    exact xSwap hB (hm p List.mem_cons_self) hs hI hw hM h2

def waits (md:Region.Mode)(ops:Array Oper)(q p:Nat):Bool:=((ops[q]?).map fun o=>o.after.toList.any fun e=>Region.binds md e && e.on==p).getD false
def mJ (md:Region.Mode)(ops:Array Oper):Nat→Nat→Nat→Bool
  | 0,q,p=>waits md ops q p
  | n+1,q,p=>waits md ops q p || (List.range ops.size).any fun m=>waits md ops q m && mJ md ops n m p
def Dn (md:Region.Mode)(ops:Array Oper)(listed:Array Bool):Prop:= ∀q p,listed.getD q false=true→waits md ops q p=true→listed.getD p true=true
theorem Dn.trans {md : Region.Mode} {ops : Array Oper} {listed : Array Bool} (hsz : listed.size = ops.size) (h : Dn md ops listed) : ∀ (n q p : Nat), listed.getD q false = true → mJ md ops n q p = true → listed.getD p true = true
  | 0, q, p, hq, hw => h q p hq hw
  | n + 1, q, p, hq, hw => by
    simp only [mJ, Bool.or_eq_true, List.any_eq_true, Bool.and_eq_true, List.mem_range] at hw
    rcases hw with hw | ⟨m, hm, h1, h2⟩
    · exact h q p hq hw
    · have h3 := h q m hq h1
      refine Dn.trans hsz h n m p ?_ h2
      rw [Array.getD_eq_getD_getElem?, Array.getElem?_eq_getElem (by rw [hsz]; exact hm)] at h3 ⊢
      simpa using h3
def pairB (md:Region.Mode)(ops:Array Oper)(kd:Nat→Kd):List Nat→Bool
  | []=>true
  | p :: l=>(l.all fun q=> !waits md ops p q && (mJ md ops 5 q p || uA ops kd p q)) && pairB md ops kd l
def edgesB (md:Region.Mode)(ops:Array Oper):Bool:=
  (List.range ops.size).all fun i=>((ops[i]?).map fun o=>o.after.all fun e=> !Region.binds md e || (decide (e.on<ops.size) && e.on !=i)).getD true

theorem kF {md : Region.Mode} (i : Nat) (post : List Nat) : ∀ (pre : List Nat), pairB md ops kd (pre ++ i :: post) = true →
    pairB md ops kd (pre ++ post) = true ∧ ∀ p ∈ pre, mJ md ops 5 i p = true ∨ uA ops kd p i = true
  | [], h => by
    simp only [List.nil_append, pairB, Bool.and_eq_true] at h
    exact ⟨h.2, by simp⟩
  | p :: pre, h => by
    simp only [List.cons_append, pairB, Bool.and_eq_true] at h
    obtain ⟨h1, h2⟩ := h
    obtain ⟨h3, h4⟩ := kF i post pre h2
    rw [List.all_eq_true] at h1
    refine ⟨?_, ?_⟩
    · simp only [List.cons_append, pairB, Bool.and_eq_true]
      refine ⟨List.all_eq_true.2 fun q hq => h1 q ?_, h3⟩
      rcases List.mem_append.1 hq with h | h
      · exact List.mem_append_left _ h
      · exact List.mem_append_right _ (List.mem_cons_of_mem _ h)
    · intro q hq
      rcases List.mem_cons.1 hq with rfl | hq
      · have := h1 i (List.mem_append_right _ List.mem_cons_self)
        simp only [Bool.and_eq_true, Bool.or_eq_true] at this
        exact this.2
      · exact h4 q hq

theorem nS {md : Region.Mode} {Qx : Exit → Act → World → Prop} (hB : ∀ i B, kd i = .mk B → ∀ w, I w → B ≤ w.heap.size) (hs : ∀ (k : Nat) (o : Oper) cs b, ops[k]? = some o → o.op ≠ .select cs b) (hI : ∀ w w', I w → fJ w w' → I w') (hed : edgesB md ops = true) (hQ : ∀ M a w, Q M a w → Qx .normal a w) :
    ∀ (fuel : Nat) (listed : Array Bool) (l : List Nat) (M : Mm) (a : Act) (w : World), listed.size = ops.size → l.Nodup → (∀ i, i ∈ l ↔ i < ops.size ∧ listed.getD i true = false) → pairB md ops kd l = true → l.length ≤ fuel → I w → jE M w → Dn md ops listed →
      dO P I ops kd Q l M a w → wpAny P md ops Qx fuel listed a w := by
  have hin : ∀ {listed : Array Bool} {i : Nat}, listed.size = ops.size → i ∈ Region.ready md ops listed → i < ops.size ∧ listed.getD i true = false := by
    intro listed i hsz hi
    obtain ⟨h0, o, ho, _⟩ := mem_ready.1 hi
    exact ⟨(Array.getElem?_eq_some_iff.1 ho).1, h0⟩
  intro fuel
  induction fuel with
  | zero =>
    intro listed l M a w hsz _ hl _ hlen _ _ _ h
    have : l = [] := List.eq_nil_of_length_eq_zero (by omega)
    subst this
    refine ⟨?_, hQ _ _ _ h⟩
    apply List.eq_nil_iff_forall_not_mem.2
    intro i hi
    have := (hl i).2 (hin hsz hi)
    simp at this
  | succ fuel ih =>
    intro listed l M a w hsz hnd hl hp hlen hwI hM hdn h
    refine ⟨fun hr => ?_, fun i hi => ?_⟩
    · cases l with
      | nil => exact hQ _ _ _ h
      | cons p l =>
        exfalso
        have hmem := (hl p).1 List.mem_cons_self
        have : p ∈ Region.ready md ops listed := by
          refine mem_ready.2 ⟨hmem.2, ops[p], Array.getElem?_eq_getElem hmem.1, fun e he hb => ?_⟩
          have hone := (List.all_eq_true.1 hed) p (List.mem_range.2 hmem.1)
          rw [Array.getElem?_eq_getElem hmem.1] at hone
          simp only [Option.map_some, Option.getD_some] at hone
          have hone := Array.all_eq_true_iff_forall_mem.1 hone e he
          rw [hb] at hone
          simp only [Bool.not_true, Bool.false_or, Bool.and_eq_true, decide_eq_true_eq, bne_iff_ne, ne_eq] at hone
          obtain ⟨h1, h2⟩ := hone
          have hlt : e.on < listed.size := by rw [hsz]; exact h1
          cases hc : listed.getD e.on true with
          | true =>
            rw [Array.getD_eq_getD_getElem?, Array.getElem?_eq_getElem hlt] at hc ⊢
            simpa using hc
          | false =>
            exfalso
            have hm := (hl e.on).2 ⟨h1, hc⟩
            rcases List.mem_cons.1 hm with hm | hm
            · exact h2 hm
            · simp only [pairB, Bool.and_eq_true] at hp
              have := List.all_eq_true.1 hp.1 e.on hm
              simp only [Bool.and_eq_true, Bool.not_eq_true'] at this
              have hw : waits md ops p e.on = true := by
                unfold waits
                rw [Array.getElem?_eq_getElem hmem.1]
                simp only [Option.map_some, Option.getD_some]
                exact List.any_eq_true.2 ⟨e, Array.mem_toList_iff.2 he, by simp [hb]⟩
              rw [hw] at this
              exact Bool.noConfusion this.1
        rw [hr] at this
        cases this
    · have hmem := (hl i).2 (hin hsz hi)
      obtain ⟨pre, post, rfl⟩ := List.append_of_mem hmem
      obtain ⟨hp1, hp2⟩ := kF i post pre hp
      have hmay : ∀ p ∈ pre, uA ops kd p i = true := by
        intro p hpm
        rcases hp2 p hpm with hw | hm
        · exfalso
          have hp0 := ((hl p).1 (List.mem_append_left _ hpm))
          have dir : ∀ m, waits md ops i m = true → listed.getD m true = true := by
            intro m hwm
            obtain ⟨_, o, ho, hall⟩ := mem_ready.1 hi
            unfold waits at hwm
            rw [ho] at hwm
            simp only [Option.map_some, Option.getD_some] at hwm
            obtain ⟨e, he, hb⟩ := List.any_eq_true.1 hwm
            replace he := Array.mem_toList_iff.1 he
            simp only [Bool.and_eq_true, beq_iff_eq] at hb
            have h1 := hall e he hb.1
            rw [hb.2] at h1
            by_cases hml : m < listed.size
            · rw [Array.getD_eq_getD_getElem?, Array.getElem?_eq_getElem hml] at h1 ⊢
              simpa using h1
            · rw [Array.getD_eq_getD_getElem?, Array.getElem?_eq_none (by omega)]; rfl
          have : listed.getD p true = true := by
            simp only [mJ, Bool.or_eq_true, List.any_eq_true, Bool.and_eq_true, List.mem_range] at hw
            rcases hw with hw | ⟨m, hm, h1, h2⟩
            · exact dir p hw
            · have h3 := dir m h1
              have h4 : listed.getD m false = true := by
                rw [Array.getD_eq_getD_getElem?, Array.getElem?_eq_getElem (by rw [hsz]; exact hm)] at h3 ⊢
                simpa using h3
              refine Dn.trans hsz hdn 4 m p h4 ?_
              simp only [mJ, Bool.or_eq_true, List.any_eq_true, Bool.and_eq_true, List.mem_range]
              exact h2
          rw [hp0.2] at this; cases this
        · exact hm
      have hx := uG hB hs hI i post pre M a w hwI hM hmay h
      have hx := aBc (Qx := Qx) hB hI hwI hM hx
      refine wpOp_mono (fun a w ⟨M, h⟩ => ?_) hx
      have hnd' : (pre ++ post).Nodup ∧ i ∉ pre ++ post := by
        have := hnd
        rw [List.nodup_append] at this
        obtain ⟨n1, n2, n3⟩ := this
        rw [List.nodup_cons] at n2
        refine ⟨List.nodup_append.2 ⟨n1, n2.2, fun a ha b hb => n3 a ha b (List.mem_cons_of_mem _ hb)⟩, fun hm => ?_⟩
        rcases List.mem_append.1 hm with hm | hm
        · exact n3 i hm i List.mem_cons_self rfl
        · exact n2.1 hm
      refine ih _ (pre ++ post) M a w (by simpa using hsz) hnd'.1 (fun k => ?_) hp1 (by simp at hlen ⊢; omega) h.1 h.2.1 ?_ h.2.2
      rotate_left
      · intro q p hq hwq
        by_cases hqi : q = i
        · subst hqi
          obtain ⟨_, o, ho, hall⟩ := mem_ready.1 hi
          unfold waits at hwq
          rw [ho] at hwq
          simp only [Option.map_some, Option.getD_some] at hwq
          obtain ⟨e, he, hb⟩ := List.any_eq_true.1 hwq
          replace he := Array.mem_toList_iff.1 he
          simp only [Bool.and_eq_true, beq_iff_eq] at hb
          have h1 := hall e he hb.1
          rw [hb.2] at h1
          by_cases hpi : p = q
          · subst hpi
            have hlt : p < listed.size := by rw [hsz]; exact (hin hsz hi).1
            simp [Array.getD_eq_getD_getElem?, hlt]
          · rw [getD_set_ne true (Ne.symm hpi)]
            by_cases hml : p < listed.size
            · rw [Array.getD_eq_getD_getElem?, Array.getElem?_eq_getElem hml] at h1 ⊢
              simpa using h1
            · rw [Array.getD_eq_getD_getElem?, Array.getElem?_eq_none (by omega)]; rfl
        · rw [getD_set_ne false (Ne.symm hqi)] at hq
          have h1 := hdn q p hq hwq
          by_cases hpi : p = i
          · subst hpi
            have hlt : p < listed.size := by rw [hsz]; exact (hin hsz hi).1
            simp [Array.getD_eq_getD_getElem?, hlt]
          · rw [getD_set_ne true (Ne.symm hpi)]; exact h1
      by_cases hk : k = i
      · subst hk
        have hlt : k < listed.size := by rw [hsz]; exact (hin hsz hi).1
        constructor
        · intro hm; exact absurd hm hnd'.2
        · rintro ⟨_, h2⟩; simp [Array.getD_eq_getD_getElem?, hlt] at h2
      · rw [getD_set_ne true (Ne.symm hk), ← hl k]
        simp [hk]

theorem aBb {md:Region.Mode}{listed:Array Bool}{p:Nat}{l:List Nat}(hsz:listed.size=ops.size)(hed:edgesB md ops=true)(hl: ∀i,i ∈ p :: l↔i<ops.size∧listed.getD i true=false)(hw: ∀q ∈ l,waits md ops p q=false):p ∈ Region.ready md ops listed:=by
  have hmem:=(hl p).1 List.mem_cons_self
  refine mem_ready.2 ⟨hmem.2,ops[p],Array.getElem?_eq_getElem hmem.1,fun e he hb=>?_⟩
  have hone:=(List.all_eq_true.1 hed) p (List.mem_range.2 hmem.1)
  rw [Array.getElem?_eq_getElem hmem.1] at hone
  simp only [Option.map_some,Option.getD_some] at hone
  have hone:=Array.all_eq_true_iff_forall_mem.1 hone e he
  rw [hb] at hone
  simp only [Bool.not_true,Bool.false_or,Bool.and_eq_true,decide_eq_true_eq,bne_iff_ne,ne_eq] at hone
  obtain ⟨h1,h2⟩:=hone
  have hlt:e.on<listed.size:=by rw [hsz]; exact h1
  cases hc:listed.getD e.on true with
  | true=>
    rw [Array.getD_eq_getD_getElem?,Array.getElem?_eq_getElem hlt] at hc ⊢
    simpa using hc
  | false=>
    exfalso
    have hm:=(hl e.on).2 ⟨h1,hc⟩
    rcases List.mem_cons.1 hm with hm | hm
    · exact h2 hm
    · have hw':waits md ops p e.on=true:=by
        unfold waits
        rw [Array.getElem?_eq_getElem hmem.1]
        simp only [Option.map_some,Option.getD_some]
        exact List.any_eq_true.2 ⟨e,Array.mem_toList_iff.2 he,by simp [hb]⟩
      rw [hw e.on hm] at hw'; cases hw'
theorem aDl {md : Region.Mode} {listed : Array Bool} {i m : Nat} (hi : i ∈ Region.ready md ops listed) (hwm : waits md ops i m = true) : listed.getD m true = true := by
  obtain ⟨_, o, ho, hall⟩ := mem_ready.1 hi
  unfold waits at hwm
  rw [ho] at hwm
  simp only [Option.map_some, Option.getD_some] at hwm
  obtain ⟨e, he, hb⟩ := List.any_eq_true.1 hwm
  replace he := Array.mem_toList_iff.1 he
  simp only [Bool.and_eq_true, beq_iff_eq] at hb
  have h1 := hall e he hb.1
  rw [hb.2] at h1
  by_cases hml : m < listed.size
  · rw [Array.getD_eq_getD_getElem?, Array.getElem?_eq_getElem hml] at h1 ⊢
    simpa using h1
  · rw [Array.getD_eq_getD_getElem?, Array.getElem?_eq_none (by omega)]; rfl
theorem kR {md : Region.Mode} {listed : Array Bool} {i p : Nat} (hsz : listed.size = ops.size) (hdn : Dn md ops listed) (hi : i ∈ Region.ready md ops listed) (hw : mJ md ops 5 i p = true) : listed.getD p true = true := by
  simp only [mJ, Bool.or_eq_true, List.any_eq_true, Bool.and_eq_true, List.mem_range] at hw
  rcases hw with hw | ⟨m, hm, h1, h2⟩
  · exact aDl hi hw
  · have h3 := aDl hi h1
    have h4 : listed.getD m false = true := by
      rw [Array.getD_eq_getD_getElem?, Array.getElem?_eq_getElem (by rw [hsz]; exact hm)] at h3 ⊢
      simpa using h3
    refine Dn.trans hsz hdn 4 m p h4 ?_
    simp only [mJ, Bool.or_eq_true, List.any_eq_true, Bool.and_eq_true, List.mem_range]
    exact h2
theorem aKw {md : Region.Mode} {listed : Array Bool} {i : Nat} (hsz : listed.size = ops.size) (hil : i < ops.size) (hdn : Dn md ops listed) (hi : i ∈ Region.ready md ops listed) : Dn md ops (listed.setIfInBounds i true) := by
 intro q p hq hwq;by_cases hqi : q = i;subst hqi;have h1 := aDl hi hwq;by_cases hpi : p = q;subst hpi;have hlt : p < listed.size := by rw [hsz]; exact hil
 simp [Array.getD_eq_getD_getElem?, hlt];rw [getD_set_ne true (Ne.symm hpi)]; exact h1;rw [getD_set_ne false (Ne.symm hqi)] at hq;have h1 := hdn q p hq hwq;by_cases hpi : p = i;subst hpi;have hlt : p < listed.size := by rw [hsz]; exact hil
 simp [Array.getD_eq_getD_getElem?, hlt];rw [getD_set_ne true (Ne.symm hpi)]; exact h1
theorem aCj {listed : Array Bool} {i : Nat} {pre post : List Nat} (hsz : listed.size = ops.size) (hil : i < ops.size) (hnd : (pre ++ i :: post).Nodup) (hl : ∀ k, k ∈ pre ++ i :: post ↔ k < ops.size ∧ listed.getD k true = false) :
    (pre ++ post).Nodup ∧ ∀ k, k ∈ pre ++ post ↔ k < ops.size ∧ (listed.setIfInBounds i true).getD k true = false := by
  have hnd' : (pre ++ post).Nodup ∧ i ∉ pre ++ post := by
    rw [List.nodup_append] at hnd
    obtain ⟨n1, n2, n3⟩ := hnd
    rw [List.nodup_cons] at n2
    refine ⟨List.nodup_append.2 ⟨n1, n2.2, fun a ha b hb => n3 a ha b (List.mem_cons_of_mem _ hb)⟩, fun hm => ?_⟩
    rcases List.mem_append.1 hm with hm | hm
    · exact n3 i hm i List.mem_cons_self rfl
    · exact n2.1 hm
  refine ⟨hnd'.1, fun k => ?_⟩
  by_cases hk : k = i
  · subst hk
    have hlt : k < listed.size := by rw [hsz]; exact hil
    constructor
    · intro hm; exact absurd hm hnd'.2
    · rintro ⟨_, h2⟩; simp [Array.getD_eq_getD_getElem?, hlt] at h2
  · rw [getD_set_ne true (Ne.symm hk), ← hl k]
    simp [hk]
theorem rM (Q:Mm→Act→World→Prop)(l2:List Nat): ∀(l1:List Nat) (M:Mm) (a:Act) (w:World),dO P I ops kd Q (l1++l2) M a w=dO P I ops kd (fun M a w=>dO P I ops kd Q l2 M a w) l1 M a w
  | [],_,_,_=>rfl
  | i :: l1,M,a,w=>by
    have e:dO P I ops kd Q (l1++l2)=dO P I ops kd (fun M a w=>dO P I ops kd Q l2 M a w) l1:=by
      funext M a w; exact rM Q l2 l1 M a w
    show xOp P I ops kd i (dO P I ops kd Q (l1++l2)) M a w=_
    rw [e]; rfl
theorem jP {Q':Mm→Act→World→Prop}(h: ∀M a w,Q M a w→Q' M a w): ∀(l:List Nat) (M:Mm) (a:Act) (w:World),dO P I ops kd Q l M a w→dO P I ops kd Q' l M a w
  | [],_,_,_,hh=>h _ _ _ hh
  | _ :: l,_,_,_,hh=>sK (fun M a w h'=>jP h l M a w h') hh
theorem aOc (hI: ∀w w',I w→fJ w w'→I w'): ∀(l:List Nat) (M:Mm) (a:Act) (w:World),I w→jE M w→dO P I ops kd Q l M a w→dO P I ops kd (fun M a w=>I w∧Q M a w) l M a w
  | [],_,_,_,hw,_,h=>⟨hw,h⟩
  | i :: l,M,a,w,hw,hM,h=>by
    have h1:xOp P I ops kd i (fun M a w=>I w∧jE M w∧dO P I ops kd Q l M a w) M a w:=aTw hI hw hM h
    exact sK (fun M a w h=>aOc hI l M a w h.1 h.2.1 h.2.2) h1
def mvB (ops:Array Oper)(kd:Nat→Kd)(p:Nat):Bool:=match ops[p]? with
  | some o=>(kd p).isPure && (match o.op with | .move _=>true | .assign _=>true | .extract _ _=>true | _=>false)
  | none=>false
theorem aAm.mv {I0 : World → Prop} {p : Nat} {o : Oper} {v : Value} {a : Act} {w : World} (ho : ops[p]? = some o) (hm : mvB ops kd p = true) (hw : I w) (h : aAm P I ops o v a) : aAm P I0 ops o v a := by
  refine h.imp (fun ⟨h1, h2⟩ => ⟨h1, fun w' _ => ?_⟩) id
  have q := h2 w hw
  unfold mvB at hm
  rw [ho] at hm
  simp only [Bool.and_eq_true] at hm
  have hm := hm.2
  cases hop : o.op <;> rw [hop] at hm <;> simp only [Bool.false_eq_true] at hm
  all_goals
    unfold execOp at q ⊢
    rw [hop] at q ⊢
    simp at q ⊢
    first
      | exact q
      | (unfold Instr.extract at q ⊢
         split at q
         · split at q
           · simp_all
           · simp_all [stuck]
         · simp_all)
def forkB (md:Region.Mode)(ops:Array Oper)(kd:Nat→Kd)(pre:List Nat)(u v:Nat)(post:List Nat):Bool:=
  pairB md ops kd (pre++u :: post) && pairB md ops kd (pre++v :: post) && !waits md ops u v && !waits md ops v u && (post.all fun q=>mJ md ops 5 q u || mJ md ops 5 q v) && !(mvB ops kd u && mvB ops kd v)
theorem aDp {md:Region.Mode}(i:Nat)(post:List Nat)(pre:List Nat)(h:pairB md ops kd (pre++i :: post)=true):pairB md ops kd (pre++post)=true:=(kF i post pre h).1
theorem jQ {md:Region.Mode}{p q:Nat}: ∀{l1 l2:List Nat},pairB md ops kd (l1++p :: l2)=true→q ∈ l2→waits md ops p q=false
  | [],l2,h,hq=>by
    simp only [List.nil_append,pairB,Bool.and_eq_true] at h
    have:=List.all_eq_true.1 h.1 q hq
    simp only [Bool.and_eq_true,Bool.not_eq_true'] at this
    exact this.1
  | x :: l1,l2,h,hq=>by
    simp only [List.cons_append,pairB,Bool.and_eq_true] at h
    exact jQ h.2 hq
theorem forkB_del {md:Region.Mode}{i u v:Nat}{p1 p2 post:List Nat}(h:forkB md ops kd (p1++i :: p2) u v post=true):forkB md ops kd (p1++p2) u v post=true:=by
 unfold forkB at *;simp only [Bool.and_eq_true] at h ⊢;obtain ⟨⟨⟨⟨⟨h1,h2⟩,h3⟩,h4⟩,h5⟩,h6⟩:=h;rw [List.append_assoc,List.cons_append] at h1 h2;refine ⟨⟨⟨⟨⟨?_,?_⟩,h3⟩,h4⟩,h5⟩,h6⟩;rw [List.append_assoc]; exact aDp i _ p1 h1;rw [List.append_assoc]; exact aDp i _ p1 h2
def barB (md:Region.Mode)(ops:Array Oper)(kd:Nat→Kd)(l l2:List Nat):Bool:=l.all fun p=>l2.all fun q=> !waits md ops p q && (mJ md ops 5 q p || (mvB ops kd p && uA ops kd p q))
theorem sZ {md:Region.Mode}{l l2:List Nat}(h:barB md ops kd l l2=true){p q:Nat}(hp:p ∈ l)(hq:q ∈ l2):(mJ md ops 5 q p=true∨mvB ops kd p=true∧uA ops kd p q=true)∧waits md ops p q=false:=by
 have:=List.all_eq_true.1 (List.all_eq_true.1 h p hp) q hq;simp only [Bool.and_eq_true,Bool.or_eq_true,Bool.not_eq_true'] at this;exact ⟨this.2,this.1⟩
theorem vG {md:Region.Mode}{l l' l2:List Nat}(h:barB md ops kd l l2=true)(hs: ∀x ∈ l',x ∈ l):barB md ops kd l' l2=true:=List.all_eq_true.2 fun x hx=>List.all_eq_true.1 h x (hs x hx)
theorem aJz {md : Region.Mode} {l2 : List Nat} (h2 : pairB md ops kd l2 = true) : ∀ {l : List Nat}, pairB md ops kd l = true → barB md ops kd l l2 = true → pairB md ops kd (l ++ l2) = true
  | [], _, _ => h2
  | p :: l, h, hb => by
    simp only [pairB, Bool.and_eq_true] at h
    rw [List.cons_append]
    simp only [pairB, Bool.and_eq_true]
    refine ⟨List.all_eq_true.2 fun q hq => ?_, aJz h2 h.2 (vG hb fun x hx => List.mem_cons_of_mem _ hx)⟩
    rcases List.mem_append.1 hq with hq | hq
    · exact List.all_eq_true.1 h.1 q hq
    · obtain ⟨q1, q2⟩ := sZ hb List.mem_cons_self hq
      rw [q2]
      simp only [Bool.not_false, Bool.true_and, Bool.or_eq_true]
      exact q1.imp id And.right
theorem aKz {I0:World→Prop}{Q2:Mm→Act→World→Prop}{l2:List Nat}: ∀(l:List Nat) {M:Mm} {a:Act} {w:World},(∀p ∈ l,mvB ops kd p=true)→I w→dO P I ops kd (fun _ a w=>I0 w∧dO P I0 ops kd Q2 l2 none a w) l M a w→I0 w∧dO P I0 ops kd Q2 (l++l2) none a w
  | [],_,_,_,_,_,h=>h
  | p :: l,M,a,w,hl,hw,h=>by
    have hm:=hl p List.mem_cons_self
    have hm':=hm
    change xOp P I ops kd p _ M a w at h
    unfold xOp at h
    cases ho:ops[p]? with
    | none=>rw [ho] at h; exact h.elim
    | some o=>
      have hk:kd p= .pure:=by
        unfold mvB at hm'
        rw [ho] at hm'
        simp only [Bool.and_eq_true] at hm'
        cases h':kd p<;>simp_all [Kd.isPure]
      simp only [ho,hk] at h
      obtain ⟨v,h1,h2⟩:=h
      obtain ⟨h3,h4⟩:=aKz l (fun x hx=>hl x (List.mem_cons_of_mem _ hx)) hw h2
      refine ⟨h3,?_⟩
      rw [List.cons_append]
      show xOp P I0 ops kd p _ none a w
      unfold xOp
      simp only [ho,hk]
      exact ⟨v,h1.mv ho hm hw,h4⟩
theorem aHn {md : Region.Mode} {Qx : Exit → Act → World → Prop} (hB : ∀ i B, kd i = .mk B → ∀ w, I w → B ≤ w.heap.size) (hs : ∀ (k : Nat) (o : Oper) cs b, ops[k]? = some o → o.op ≠ .select cs b) (hI : ∀ w w', I w → fJ w w' → I w') (hed : edgesB md ops = true) (l2 : List Nat)
    (hfin : ∀ (fuel : Nat) (listed : Array Bool) (l : List Nat) (M : Mm) (a : Act) (w : World), (∀ p ∈ l, mvB ops kd p = true) → listed.size = ops.size → (l ++ l2).Nodup → (∀ i, i ∈ l ++ l2 ↔ i < ops.size ∧ listed.getD i true = false) → pairB md ops kd l = true → barB md ops kd l l2 = true → (l ++ l2).length ≤ fuel → I w → jE M w → Dn md ops listed → dO P I ops kd Q l M a w → wpAny P md ops Qx fuel listed a w) :
    ∀ (fuel : Nat) (listed : Array Bool) (l : List Nat) (M : Mm) (a : Act) (w : World), listed.size = ops.size → (l ++ l2).Nodup → (∀ i, i ∈ l ++ l2 ↔ i < ops.size ∧ listed.getD i true = false) → pairB md ops kd l = true → barB md ops kd l l2 = true → (l ++ l2).length ≤ fuel → I w → jE M w → Dn md ops listed →
      dO P I ops kd Q l M a w → wpAny P md ops Qx fuel listed a w := by
  have hin : ∀ {listed : Array Bool} {i : Nat}, listed.size = ops.size → i ∈ Region.ready md ops listed → i < ops.size ∧ listed.getD i true = false := by
    intro listed i hsz hi
    obtain ⟨h0, o, ho, _⟩ := mem_ready.1 hi
    exact ⟨(Array.getElem?_eq_some_iff.1 ho).1, h0⟩
  intro fuel
  induction fuel with
  | zero =>
    intro listed l M a w hsz hnd hl _ _ hlen hwI hM hdn h
    have h0 : l = [] := List.eq_nil_of_length_eq_zero (by rw [List.length_append] at hlen; omega)
    subst h0
    exact hfin 0 listed [] M a w (by simp) hsz hnd hl rfl rfl hlen hwI hM hdn h
  | succ fuel ih =>
    intro listed l M a w hsz hnd hl hp hb hlen hwI hM hdn h
    by_cases hall : ∀ p ∈ l, mvB ops kd p = true
    · exact hfin _ listed l M a w hall hsz hnd hl hp hb hlen hwI hM hdn h
    cases l with
    | nil => exact absurd (by simp) hall
    | cons p0 l0 =>
      refine ⟨fun hr => ?_, fun i hi => ?_⟩
      · exfalso
        have := aBb (p := p0) (l := l0 ++ l2) hsz hed hl (fun q hq => by
          rcases List.mem_append.1 hq with hq | hq
          · exact jQ (l1 := []) hp hq
          · exact (sZ hb List.mem_cons_self hq).2)
        rw [hr] at this; cases this
      · have hil := (hin hsz hi).1
        have hmem := (hl i).2 (hin hsz hi)
        rcases List.mem_append.1 hmem with hm | hm
        · obtain ⟨p1, p2, he⟩ := List.append_of_mem hm
          rw [he] at hnd hl hp hb hlen h
          have hmay : ∀ p ∈ p1, uA ops kd p i = true := fun p hpm => by
            rcases (kF i _ p1 hp).2 p hpm with hw | hm
            · have := kR hsz hdn hi hw
              have h0 := ((hl p).1 (List.mem_append_left _ (List.mem_append_left _ hpm))).2
              rw [h0] at this; cases this
            · exact hm
          have hx := uG hB hs hI i p2 p1 M a w hwI hM hmay h
          have hx := aBc (Qx := Qx) hB hI hwI hM hx
          refine wpOp_mono (fun a w ⟨M, h⟩ => ?_) hx
          rw [List.append_assoc, List.cons_append] at hnd hl
          obtain ⟨n1, n2⟩ := aCj hsz hil hnd hl
          refine ih _ (p1 ++ p2) M a w (by simpa using hsz) (by rw [List.append_assoc]; exact n1) (by rw [List.append_assoc]; exact n2) (aDp i p2 p1 hp) (vG hb fun x hx => ?_) (by simp at hlen ⊢; omega) h.1 h.2.1 (aKw hsz hil hdn hi) h.2.2
          rcases List.mem_append.1 hx with hx | hx
          · exact List.mem_append_left _ hx
          · exact List.mem_append_right _ (List.mem_cons_of_mem _ hx)
        · exfalso
          refine hall fun p hp => ?_
          rcases (sZ hb hp hm).1 with q | q
          · have := kR hsz hdn hi q
            have h0 := ((hl p).1 (List.mem_append_left _ hp)).2
            rw [h0] at this; cases this
          · exact q.1
theorem aSa {md : Region.Mode} {Qx : Exit → Act → World → Prop} (hB : ∀ i B, kd i = .mk B → ∀ w, I w → B ≤ w.heap.size) (hs : ∀ (k : Nat) (o : Oper) cs b, ops[k]? = some o → o.op ≠ .select cs b) (hI : ∀ w w', I w → fJ w w' → I w') (hed : edgesB md ops = true) (u v : Nat) (post l2 : List Nat)
    (hfin : ∀ (fuel : Nat) (listed : Array Bool) (l : List Nat) (M : Mm) (a : Act) (w : World), (∀ p ∈ l, mvB ops kd p = true) → listed.size = ops.size → (l ++ l2).Nodup → (∀ i, i ∈ l ++ l2 ↔ i < ops.size ∧ listed.getD i true = false) → pairB md ops kd l = true → barB md ops kd l l2 = true → (l ++ l2).length ≤ fuel → I w → jE M w → Dn md ops listed → dO P I ops kd Q l M a w → wpAny P md ops Qx fuel listed a w) :
    ∀ (fuel : Nat) (listed : Array Bool) (pre : List Nat) (M : Mm) (a : Act) (w : World), listed.size = ops.size → (pre ++ u :: v :: (post ++ l2)).Nodup → (∀ i, i ∈ pre ++ u :: v :: (post ++ l2) ↔ i < ops.size ∧ listed.getD i true = false) → forkB md ops kd pre u v post = true → barB md ops kd (pre ++ u :: v :: post) l2 = true → (pre ++ u :: v :: (post ++ l2)).length ≤ fuel → I w → jE M w → Dn md ops listed →
      dO P I ops kd (fun M a w => dO P I ops kd Q (u :: v :: post) M a w ∧ dO P I ops kd Q (v :: u :: post) M a w) pre M a w → wpAny P md ops Qx fuel listed a w := by
  have hin : ∀ {listed : Array Bool} {i : Nat}, listed.size = ops.size → i ∈ Region.ready md ops listed → i < ops.size ∧ listed.getD i true = false := by
    intro listed i hsz hi
    obtain ⟨h0, o, ho, _⟩ := mem_ready.1 hi
    exact ⟨(Array.getElem?_eq_some_iff.1 ho).1, h0⟩
  intro fuel
  induction fuel with
  | zero => intro listed pre M a w _ _ _ _ _ hlen; simp at hlen
  | succ fuel ih =>
    intro listed pre M a w hsz hnd hl hp hb hlen hwI hM hdn h
    have hp0 := hp
    unfold forkB at hp
    simp only [Bool.and_eq_true, Bool.not_eq_true'] at hp
    obtain ⟨⟨⟨⟨⟨hp1, hp2⟩, hp3⟩, hp4⟩, hp5⟩, hp6⟩ := hp
    refine ⟨fun hr => ?_, fun i hi => ?_⟩
    · exfalso
      cases pre with
      | nil =>
        have := aBb (p := u) (l := v :: (post ++ l2)) hsz hed hl (fun q hq => by
          rcases List.mem_cons.1 hq with rfl | hq
          · exact hp3
          · rcases List.mem_append.1 hq with hq | hq
            · exact jQ (l1 := []) hp1 hq
            · exact (sZ hb List.mem_cons_self hq).2)
        rw [hr] at this; cases this
      | cons p pre =>
        have := aBb (p := p) (l := pre ++ u :: v :: (post ++ l2)) hsz hed hl (fun q hq => by
          rcases List.mem_append.1 hq with hq | hq
          · exact jQ (l1 := []) hp1 (List.mem_append_left _ hq)
          · rcases List.mem_cons.1 hq with rfl | hq
            · exact jQ (l1 := []) hp1 (List.mem_append_right _ List.mem_cons_self)
            · rcases List.mem_cons.1 hq with rfl | hq
              · exact jQ (l1 := []) hp2 (List.mem_append_right _ List.mem_cons_self)
              · rcases List.mem_append.1 hq with hq | hq
                · exact jQ (l1 := []) hp1 (List.mem_append_right _ (List.mem_cons_of_mem _ hq))
                · exact (sZ hb List.mem_cons_self hq).2)
        rw [hr] at this; cases this
    · have hil := (hin hsz hi).1
      have hmem := (hl i).2 (hin hsz hi)
      rcases List.mem_append.1 hmem with hm | hm
      · obtain ⟨p1, p2, rfl⟩ := List.append_of_mem hm
        have hpp := hp1
        rw [List.append_assoc, List.cons_append] at hpp
        have hmay : ∀ p ∈ p1, uA ops kd p i = true := fun p hpm => by
          rcases (kF i _ p1 hpp).2 p hpm with hw | hm
          · have := kR hsz hdn hi hw
            have h0 := ((hl p).1 (List.mem_append_left _ (List.mem_append_left _ hpm))).2
            rw [h0] at this; cases this
          · exact hm
        have hx := uG hB hs hI i p2 p1 M a w hwI hM hmay h
        have hx := aBc (Qx := Qx) hB hI hwI hM hx
        refine wpOp_mono (fun a w ⟨M, h⟩ => ?_) hx
        have hnd0 := hnd
        rw [List.append_assoc, List.cons_append] at hnd0
        have hl0 := hl
        rw [List.append_assoc, List.cons_append] at hl0
        obtain ⟨n1, n2⟩ := aCj hsz hil hnd0 hl0
        refine ih _ (p1 ++ p2) M a w (by simpa using hsz) (by rw [List.append_assoc]; exact n1) (by rw [List.append_assoc]; exact n2) (forkB_del hp0) (vG hb fun x hx => by simp at hx ⊢; rcases hx with h | h | h | h | h <;> simp [h]) (by simp at hlen ⊢; omega) h.1 h.2.1 (aKw hsz hil hdn hi) h.2.2
      · rcases List.mem_cons.1 hm with rfl | hm
        · have hmay : ∀ p ∈ pre, uA ops kd p i = true := fun p hpm => by
            rcases (kF i _ pre hp1).2 p hpm with hw | hm
            · have := kR hsz hdn hi hw
              have h0 := ((hl p).1 (List.mem_append_left _ hpm)).2
              rw [h0] at this; cases this
            · exact hm
          have h1 : dO P I ops kd Q (pre ++ i :: v :: post) M a w := by
            rw [rM]; exact jP (fun _ _ _ h => h.1) pre M a w h
          have hx := uG hB hs hI i (v :: post) pre M a w hwI hM hmay h1
          have hx := aBc (Qx := Qx) hB hI hwI hM hx
          refine wpOp_mono (fun a w ⟨M, h⟩ => ?_) hx
          obtain ⟨n1, n2⟩ := aCj (pre := pre) hsz hil hnd hl
          exact aHn hB hs hI hed l2 hfin fuel _ (pre ++ v :: post) M a w (by simpa using hsz) (by simpa using n1) (by simpa using n2) hp2 (vG hb fun x hx => by simp at hx ⊢; rcases hx with h | h | h <;> simp [h]) (by simp at hlen ⊢; omega) h.1 h.2.1 (aKw hsz hil hdn hi) h.2.2
        · rcases List.mem_cons.1 hm with rfl | hm
          · have hmay : ∀ p ∈ pre, uA ops kd p i = true := fun p hpm => by
              rcases (kF i _ pre hp2).2 p hpm with hw | hm
              · have := kR hsz hdn hi hw
                have h0 := ((hl p).1 (List.mem_append_left _ hpm)).2
                rw [h0] at this; cases this
              · exact hm
            have h1 : dO P I ops kd Q (pre ++ i :: u :: post) M a w := by
              rw [rM]; exact jP (fun _ _ _ h => h.2) pre M a w h
            have hx := uG hB hs hI i (u :: post) pre M a w hwI hM hmay h1
            have hx := aBc (Qx := Qx) hB hI hwI hM hx
            refine wpOp_mono (fun a w ⟨M, h⟩ => ?_) hx
            have hperm : (pre ++ u :: i :: (post ++ l2)).Perm (pre ++ i :: u :: (post ++ l2)) := List.Perm.append_left pre (List.Perm.swap i u _)
            obtain ⟨n1, n2⟩ := aCj hsz hil (hperm.nodup_iff.1 hnd) (fun k => by rw [← hperm.mem_iff]; exact hl k)
            exact aHn hB hs hI hed l2 hfin fuel _ (pre ++ u :: post) M a w (by simpa using hsz) (by simpa using n1) (by simpa using n2) hp1 (vG hb fun x hx => by simp at hx ⊢; rcases hx with h | h | h <;> simp [h]) (by simp at hlen ⊢; omega) h.1 h.2.1 (aKw hsz hil hdn hi) h.2.2
          · exfalso
            rcases List.mem_append.1 hm with hm | hm
            rotate_left
            · have key : ∀ x, x ∈ pre ++ u :: v :: post → x ∈ pre ++ u :: v :: (post ++ l2) → mvB ops kd x = true := fun x h1 h2 => by
                rcases (sZ hb h1 hm).1 with q | q
                · have := kR hsz hdn hi q
                  have h0 := ((hl x).1 h2).2
                  rw [h0] at this; cases this
                · exact q.1
              rw [key u (by simp) (by simp), key v (by simp) (by simp)] at hp6
              cases hp6
            have h5 := List.all_eq_true.1 hp5 i hm
            simp only [Bool.or_eq_true] at h5
            rcases h5 with h5 | h5
            · have := kR hsz hdn hi h5
              have h0 := ((hl u).1 (List.mem_append_right _ List.mem_cons_self)).2
              rw [h0] at this; cases this
            · have := kR hsz hdn hi h5
              have h0 := ((hl v).1 (List.mem_append_right _ (List.mem_cons_of_mem _ List.mem_cons_self))).2
              rw [h0] at this; cases this
theorem aIm {id N:Nat}{l:List Oper}{Qx:Exit→Env→World→Prop}{a:Act}{w:World}{pre post l2:List Nat}{u v:Nat}{I0:World→Prop}(hB: ∀i B,kd i= .mk B→ ∀w,I w→B≤w.heap.size)(hB0: ∀i B,kd i= .mk B→ ∀w,I0 w→B≤w.heap.size)(hm:P.follows .mixedOrders=true)(hs:Region.noSelect l.toArray=true)(hed:edgesB .any l.toArray=true)(hp:forkB .any l.toArray kd pre u v post=true)(hb:barB .any l.toArray kd (pre++u :: v :: post) l2=true)(hp2:pairB .any l.toArray kd l2=true)
    (hperm:(pre++u :: v :: (post++l2)).Perm (List.range l.length))(hI: ∀w w',I w→fJ w w'→I w')(hI0: ∀w w',I0 w→fJ w w'→I0 w')(hw:I w)
    (h: ∀w',fJ w w'→dO P I l.toArray kd (fun M a w=>dO P I l.toArray kd (fun _ a w=>I0 w∧dO P I0 l.toArray kd (fun _ a w=> ∃ρ',Fits N a ρ'∧Qx .normal ρ' w) l2 none a w) (u :: v :: post) M a w∧dO P I l.toArray kd (fun _ a w=>I0 w∧dO P I0 l.toArray kd (fun _ a w=> ∃ρ',Fits N a ρ'∧Qx .normal ρ' w) l2 none a w) (v :: u :: post) M a w) pre (some fun _=>False) a w'):(Code.region id l.toArray true).wp P (uP N Qx) a w:=by
 refine wp_region_any hm (aSa hB (Region.noSelect_spec hs) hI hed u v post l2 (fun fuel listed l M a w hmv hsz hnd hl hpl hbl hlen hw _ hdn hq=>nS (I:=I0) hB0 (Region.noSelect_spec hs) hI0 hed (fun _ _ _ h=>h) fuel listed (l++l2) none a w hsz hnd hl (aJz hp2 hpl hbl) hlen (aKz l hmv hw hq).1 jE.no hdn (aKz l hmv hw hq).2) _ _ pre (some fun _=>False) a _ (by simp) (hperm.nodup_iff.2 List.nodup_range) (fun i=>?_) hp hb (by rw [hperm.length_eq]; simp) (hI _ _ hw ((Below.refl _ _).drew)) (fun A e x hx=>by cases e; exact hx.elim) (fun q p hq _=>by simp [Array.getD_eq_getD_getElem?,Array.getElem?_replicate] at hq; split at hq<;>simp at hq) (h _ ((Below.refl _ _).drew)));rw [hperm.mem_iff,List.mem_range];constructor;intro hi; exact ⟨by simpa using hi,by simp [Array.getD_eq_getD_getElem?,hi]⟩;exact fun h=>by simpa using h.1
theorem aCs {id N:Nat}{l:List Oper}{Qx:Exit→Env→World→Prop}{a:Act}{w:World}{σ:List Nat}(hB: ∀i B,kd i= .mk B→ ∀w,I w→B≤w.heap.size)(hm:P.follows .mixedOrders=true)(hs:Region.noSelect l.toArray=true)(hed:edgesB .any l.toArray=true)(hp:pairB .any l.toArray kd σ=true)
    (hperm:σ.Perm (List.range l.length))(hI: ∀w w',I w→fJ w w'→I w')(hw:I w)(h: ∀w',fJ w w'→dO P I l.toArray kd (fun _ a w=> ∃ρ',Fits N a ρ'∧Qx .normal ρ' w) σ (some fun _=>False) a w'):(Code.region id l.toArray true).wp P (uP N Qx) a w:=by
 refine wp_region_any hm (nS hB (Region.noSelect_spec hs) hI hed (fun _ _ _ h=>h) _ _ σ (some fun _=>False) a _ (by simp) (hperm.nodup_iff.2 List.nodup_range) (fun i=>?_) hp (by rw [hperm.length_eq]; simp) (hI _ _ hw ((Below.refl _ _).drew)) (fun A e x hx=>by cases e; exact hx.elim) (fun q p hq _=>by simp [Array.getD_eq_getD_getElem?,Array.getElem?_replicate] at hq; split at hq<;>simp at hq) (h _ ((Below.refl _ _).drew)));rw [hperm.mem_iff,List.mem_range];constructor;intro hi; exact ⟨by simpa using hi,by simp [Array.getD_eq_getD_getElem?,hi]⟩;exact fun h=>by simpa using h.1
end
end Go.MxM
namespace Go.MxM
open Go.OB
open Go.RowKit

def kdOf (κ:List Kd)(i:Nat):Kd:=κ.getD i .pure

def XL (P:Program)(I:World→Prop)(N:Nat)(ops:Array Oper)(κ:List Kd)(K:Mm→Env→World→Prop)(M:Mm)(σ:List Nat)(l:List Oper)(ρ:Env)(w:World):Prop:=
  (l.map some=σ.map fun i=>ops[i]?)→ ∀w',fJ w w'→I w'→ ∀a,Fits N a ρ→dO P I ops (kdOf κ) (fun M a w=> ∃ρ',Fits N a ρ'∧K M ρ' w) σ M a w'

section
variable {P:Program} {I:World→Prop} {N:Nat} {ops:Array Oper} {κ:List Kd} {K:Mm→Env→World→Prop} {Q:Exit→Env→World→Prop} {k:Nat} {M:Mm} {σ:List Nat} {rest:List Oper} {ρ:Env} {w:World} {v:Value} {d:Nat} {op:Op} {ty:TypeId} {pos:String} {af:Array Edge} {g:Option (Nat×Bool)}
def sel (l:List Oper):List Nat→List Oper
  | []=>[]
  | i :: σ=>match l[i]? with
    | some o=>o :: sel l σ
    | none=>[]
theorem aEd (l:List Oper): ∀(σ:List Nat),(∀i ∈ σ,i<l.length)→(sel l σ).map some=σ.map fun i=>l.toArray[i]?
  | [],_=>rfl
  | i :: σ,h=>by
    have hi:=h i List.mem_cons_self
    have ih:=aEd l σ (fun j hj=>h j (List.mem_cons_of_mem _ hj))
    unfold sel
    rw [List.getElem?_eq_getElem hi]
    simp only [List.map_cons,ih]
    simp [hi]
theorem WP_mix {id:Nat}{l:List Oper}(σ:List Nat)(κ:List Kd)(hB: ∀i B,kdOf κ i= .mk B→ ∀w,I w→B≤w.heap.size)(hm:P.follows .mixedOrders=true)(hs:Region.noSelect l.toArray=true)(hed:edgesB .any l.toArray=true)(hp:pairB .any l.toArray (kdOf κ) σ=true)
    (hσ:σ.isPerm (List.range l.length)=true)(hI: ∀w w',I w→fJ w w'→I w')(hw:I w)(h:XL P I N l.toArray κ (fun _ ρ w=>Q .normal ρ w) (some fun _=>False) σ (sel l σ) ρ w):WP P N (.region id l.toArray true) Q ρ w:=by
 have hσ:σ.Perm (List.range l.length):=List.isPerm_iff.1 hσ;intro a ha;refine aCs (I:=I) (σ:=σ) hB hm hs hed hp hσ hI hw (fun w' hw'=>?_);exact h (aEd l σ fun i hi=>List.mem_range.1 (hσ.mem_iff.1 hi)) w' hw' (hI _ _ hw hw') a ha
theorem xP {id:Nat}{l:List Oper}(σ:List Nat)(κ:List Kd)(hB: ∀i B,kdOf κ i= .mk B→ ∀w,I w→B≤w.heap.size)(hm:P.follows .mixedOrders=true)(hs:Region.noSelect l.toArray=true)(hed:edgesB .any l.toArray=true)(hp:pairB .any l.toArray (kdOf κ) σ=true)
    (hσ:σ=List.range l.length)(hI: ∀w w',I w→fJ w w'→I w')(hw:I w)(h:XL P I N l.toArray κ (fun _ ρ w=>Q .normal ρ w) (some fun _=>False) σ l ρ w):WP P N (.region id l.toArray true) Q ρ w:=by
 intro a ha;refine aCs (I:=I) (σ:=σ) hB hm hs hed hp (by rw [hσ]) hI hw (fun w' hw'=>?_);refine h ?_ w' hw' (hI _ _ hw hw') a ha;rw [hσ];apply List.ext_getElem;simp;intro i h1 h2; simp

theorem xG (h: ∀w',fJ w w'→K M ρ w'):XL P I N ops κ K M σ [] ρ w:=by
  intro hl w' hw' _ _ ha
  have:σ= []:=by
    have:=congrArg List.length hl
    simp at this
    exact List.eq_nil_of_length_eq_zero this.symm
  subst this
  exact ⟨ρ,ha,h w' hw'⟩
theorem XL.head {o:Oper}(hl:(o :: rest).map some=(k :: σ).map fun i=>ops[i]?):ops[k]? =some o:=by
 simp only [List.map_cons,List.cons.injEq] at hl; exact hl.1.symm
theorem XL.tail {o:Oper}(hl:(o :: rest).map some=(k :: σ).map fun i=>ops[i]?):rest.map some=σ.map fun i=>ops[i]? :=by
 simp only [List.map_cons,List.cons.injEq] at hl; exact hl.2

theorem XL_pure (hk:kdOf κ k= .pure)(hw:dA N ops ρ ⟨some d,op,ty,pos,af,g⟩=true)(hd:Nat.blt d N=true)(h: ∀w',I w'→Do P ⟨some d,op,ty,pos,af,g⟩ ρ w' v w')(n:XL P I N ops κ K M σ rest (upd ρ d v) w):
    XL P I N ops κ K M (k :: σ) (⟨some d,op,ty,pos,af,g⟩ :: rest) ρ w:=by
 intro hl w' hw' hI a ha;simp only [dO];unfold xOp;simp only [XL.head hl,hk];exact ⟨v,.inl ⟨by rw [ha.wanted]; exact hw,fun w2 h2=>by rw [ha.eval]; exact h w2 h2⟩,n (XL.tail hl) w' hw' hI _ (ha.put (wC hd) v)⟩
theorem XL_offp (hk:kdOf κ k= .pure)(hw:dA N ops ρ ⟨some d,op,ty,pos,af,g⟩=false)(hd:Nat.blt d N=true)(n:XL P I N ops κ K M σ rest (upd ρ d undef) w):
    XL P I N ops κ K M (k :: σ) (⟨some d,op,ty,pos,af,g⟩ :: rest) ρ w:=by
 intro hl w' hw' hI a ha;simp only [dO];unfold xOp;simp only [XL.head hl,hk];exact ⟨undef,.inr ⟨by rw [ha.wanted]; exact hw,rfl⟩,n (XL.tail hl) w' hw' hI _ (ha.put (wC hd) _)⟩
theorem XL_offr (hc: ∀w w',I w→fJ w w'→I w')(hk:kdOf κ k= .read)(hw:dA N ops ρ ⟨some d,op,ty,pos,af,g⟩=false)(hd:Nat.blt d N=true)(n:XL P I N ops κ K M σ rest (upd ρ d undef) w):
    XL P I N ops κ K M (k :: σ) (⟨some d,op,ty,pos,af,g⟩ :: rest) ρ w:=by
 intro hl w' hw' hI a ha;simp only [dO];unfold xOp;simp only [XL.head hl,hk];exact ⟨undef,.inr ⟨by rw [ha.wanted]; exact hw,rfl⟩,fun w2 h2=>n (XL.tail hl) w2 (hw'.trans h2) (hc _ _ hI h2) _ (ha.put (wC hd) _)⟩
theorem xY (hc: ∀w w',I w→fJ w w'→I w')(hk:kdOf κ k= .read)(hw:dA N ops ρ ⟨some d,op,ty,pos,af,g⟩=true)(hd:Nat.blt d N=true)(h: ∀w',fJ w w'→Do P ⟨some d,op,ty,pos,af,g⟩ ρ w' v w')(n:XL P I N ops κ K M σ rest (upd ρ d v) w):
    XL P I N ops κ K M (k :: σ) (⟨some d,op,ty,pos,af,g⟩ :: rest) ρ w:=by
 intro hl w' hw' hI a ha;simp only [dO];unfold xOp;simp only [XL.head hl,hk];refine ⟨v,.inl ⟨by rw [ha.wanted]; exact hw,fun w2 h2=>?_⟩,fun w2 h2=>n (XL.tail hl) w2 (hw'.trans h2) (hc _ _ hI h2) _ (ha.put (wC hd) v)⟩;rw [ha.eval,show (execOp (ev ρ) _).run P w2=_ from h w2 (hw'.trans h2)];exact ⟨rfl,rfl⟩
theorem XL_call {f:FuncId}{args:Array Value}(hC: ∀w w',I w→fJ w w'→I w')(hk:kdOf κ k= .read)(hw:dA N ops ρ ⟨some d,op,ty,pos,af,g⟩=true)(hd:Nat.blt d N=true)(h: ∀w',fJ w w'→DoC P ⟨some d,op,ty,pos,af,g⟩ ρ w' f args)
    (hc: ∀w',fJ w w'→Calls P f args w' fun e w''=>e= .returned v∧Below w'.heap.size w' w'')(n:XL P I N ops κ K M σ rest (upd ρ d v) w):
    XL P I N ops κ K M (k :: σ) (⟨some d,op,ty,pos,af,g⟩ :: rest) ρ w:=by
 intro hl w' hw' hI a ha;simp only [dO];unfold xOp;simp only [XL.head hl,hk];refine ⟨v,.inl ⟨by rw [ha.wanted]; exact hw,fun w2 h2=>?_⟩,fun w2 h2=>n (XL.tail hl) w2 (hw'.trans h2) (hC _ _ hI h2) _ (ha.put (wC hd) v)⟩;rw [ha.eval,show (execOp (ev ρ) _).run P w2=_ from h w2 (hw'.trans h2)];exact ⟨rfl,(hc w2 (hw'.trans h2)).mono fun e w3 ⟨he,hb⟩=>⟨he,hb⟩⟩
theorem XL_fcall {f:FuncId}{args:Array Value}(hC: ∀w w',I w→fJ w w'→I w')(hk:kdOf κ k= .fcall)(hw:dA N ops ρ ⟨some d,op,ty,pos,af,g⟩=true)(hd:Nat.blt d N=true)(h: ∀w',I w'→DoC P ⟨some d,op,ty,pos,af,g⟩ ρ w' f args)
    (hc: ∀w',I w'→Calls P f args w' fun e w''=>e= .returned v∧Below w'.heap.size w' w'')(n:XL P I N ops κ K M σ rest (upd ρ d v) w):
    XL P I N ops κ K M (k :: σ) (⟨some d,op,ty,pos,af,g⟩ :: rest) ρ w:=by
 intro hl w' hw' hI a ha;simp only [dO];unfold xOp;simp only [XL.head hl,hk];refine ⟨v,.inl ⟨by rw [ha.wanted]; exact hw,fun w2 h2=>?_⟩,fun w2 h2=>n (XL.tail hl) w2 (hw'.trans h2) (hC _ _ hI h2) _ (ha.put (wC hd) v)⟩;rw [ha.eval,show (execOp (ev ρ) _).run P w2=_ from h w2 h2];exact ⟨rfl,(hc w2 h2).mono fun e w3 ⟨he,hb⟩=>⟨he,hb⟩⟩
theorem XL_splitb {b:Bool}{x:Operand}(hk:kdOf κ k= .pure)(hw:dA N ops ρ ⟨some d,.move x,ty,pos,af,g⟩=true)(hd:Nat.blt d N=true)(hx:ev ρ x= .bool b)
    (ht:b=true→XL P I N ops κ K M σ rest (upd ρ d (.bool true)) w)(hf:b=false→XL P I N ops κ K M σ rest (upd ρ d (.bool false)) w):XL P I N ops κ K M (k :: σ) (⟨some d,.move x,ty,pos,af,g⟩ :: rest) ρ w:=by
 refine XL_pure (v:= .bool b) hk hw hd (fun w' _=>by unfold Do; simp [execOp,hx]) ?_;cases b;exact hf rfl;exact ht rfl
theorem XL_exN {R:World→Value→World→Prop}(hC: ∀w w',I w→fJ w w'→I w')(hk:kdOf κ k= .new)(hw:dA N ops ρ ⟨some d,op,ty,pos,af,g⟩=true)(hd:Nat.blt d N=true)
    (h: ∀w1,fJ w w1→ ∃v w',Do P ⟨some d,op,ty,pos,af,g⟩ ρ w1 v w'∧fJ w1 w'∧R w1 v w')(n: ∀w1 v w',fJ w w1→R w1 v w'→XL P I N ops κ K M σ rest (upd ρ d v) w'):XL P I N ops κ K M (k :: σ) (⟨some d,op,ty,pos,af,g⟩ :: rest) ρ w:=by
 intro hl w' hw' hI a ha;obtain ⟨v,w'',h1,h3,h2⟩:=h w' hw';simp only [dO];unfold xOp;simp only [XL.head hl,hk];exact .inl ⟨by rw [ha.wanted]; exact hw,.inl ⟨v,w'',by rw [ha.eval]; exact h1,h3,fun w3 hw3=>n _ _ _ hw' h2 (XL.tail hl) w3 hw3 (hC _ _ (hC _ _ hI h3) hw3) _ (ha.put (wC hd) v)⟩⟩
theorem XL_newC {f:FuncId}{args:Array Value}{R:World→Ending→World→Prop}(hC: ∀w w',I w→fJ w w'→I w')(hk:kdOf κ k= .new)(hw:dA N ops ρ ⟨some d,op,ty,pos,af,g⟩=true)(hd:Nat.blt d N=true)(h: ∀w',fJ w w'→DoC P ⟨some d,op,ty,pos,af,g⟩ ρ w' f args)
    (hc: ∀w',fJ w w'→Calls P f args w' (R w'))(n: ∀w' e w'',fJ w w'→R w' e w''→ ∃v,e= .returned v∧fJ w' w''∧XL P I N ops κ K M σ rest (upd ρ d v) w''):XL P I N ops κ K M (k :: σ) (⟨some d,op,ty,pos,af,g⟩ :: rest) ρ w:=by
 intro hl w' hw' hI a ha;simp only [dO];unfold xOp;simp only [XL.head hl,hk];refine .inl ⟨by rw [ha.wanted]; exact hw,.inr ⟨f,args,by rw [ha.eval]; exact h w' hw',(hc w' hw').mono fun e w'' hR=>?_⟩⟩;obtain ⟨v,he,hs,hx⟩:=n w' e w'' hw' hR;exact ⟨v,he,hs,fun w3 hw3=>hx (XL.tail hl) w3 hw3 (hC _ _ (hC _ _ hI hs) hw3) _ (ha.put (wC hd) v)⟩
theorem XL_ex {R:World→Value→World→Prop}(hC: ∀w w',I w→fJ w w'→I w')(hk:kdOf κ k= .eff)(hw:dA N ops ρ ⟨some d,op,ty,pos,af,g⟩=true)(hd:Nat.blt d N=true)(h: ∀w1,fJ w w1→ ∃v w',Do P ⟨some d,op,ty,pos,af,g⟩ ρ w1 v w'∧R w1 v w')
    (n: ∀w1 v w',fJ w w1→R w1 v w'→I w'∧XL P I N ops κ K none σ rest (upd ρ d v) w'):XL P I N ops κ K M (k :: σ) (⟨some d,op,ty,pos,af,g⟩ :: rest) ρ w:=by
 intro hl w' hw' hI a ha;obtain ⟨v,w'',h1,h2⟩:=h w' hw';simp only [dO];unfold xOp;simp only [XL.head hl,hk];have h3:=n _ _ _ hw' h2;exact .inl ⟨by rw [ha.wanted]; exact hw,.inl ⟨v,w'',by rw [ha.eval]; exact h1,h3.1,none,jE.no,fun w3 hw3=>h3.2 (XL.tail hl) w3 hw3 (hC _ _ h3.1 hw3) _ (ha.put (wC hd) v)⟩⟩
theorem XL_exU {R:World→World→Prop}(hC: ∀w w',I w→fJ w w'→I w')(hk:kdOf κ k= .eff)(hw:dA N ops ρ ⟨none,op,ty,pos,af,g⟩=true)(h: ∀w1,fJ w w1→ ∃w',DoU P ⟨none,op,ty,pos,af,g⟩ ρ w1 w'∧R w1 w')
    (n: ∀w1 w',fJ w w1→R w1 w'→I w'∧XL P I N ops κ K none σ rest ρ w'):XL P I N ops κ K M (k :: σ) (⟨none,op,ty,pos,af,g⟩ :: rest) ρ w:=by
 intro hl w' hw' hI a ha;obtain ⟨w'',h1,h2⟩:=h w' hw';simp only [dO];unfold xOp;simp only [XL.head hl,hk];have h3:=n _ _ hw' h2;exact .inl ⟨by rw [ha.wanted]; exact hw,.inr (.inl ⟨w'',by rw [ha.eval]; exact h1,h3.1,none,jE.no,fun w3 hw3=>h3.2 (XL.tail hl) w3 hw3 (hC _ _ h3.1 hw3) _ ha⟩)⟩
theorem XL_effC {f:FuncId}{args:Array Value}{R:World→Ending→World→Prop}(hC: ∀w w',I w→fJ w w'→I w')(hk:kdOf κ k= .eff)(hw:dA N ops ρ ⟨some d,op,ty,pos,af,g⟩=true)(hd:Nat.blt d N=true)(h: ∀w',fJ w w'→DoC P ⟨some d,op,ty,pos,af,g⟩ ρ w' f args)
    (hc: ∀w',fJ w w'→Calls P f args w' (R w'))(n: ∀w' e w'',fJ w w'→R w' e w''→ ∃v,e= .returned v∧I w''∧XL P I N ops κ K none σ rest (upd ρ d v) w''):XL P I N ops κ K M (k :: σ) (⟨some d,op,ty,pos,af,g⟩ :: rest) ρ w:=by
 intro hl w' hw' hI a ha;simp only [dO];unfold xOp;simp only [XL.head hl,hk];refine .inl ⟨by rw [ha.wanted]; exact hw,.inr (.inr ⟨f,args,by rw [ha.eval]; exact h w' hw',(hc w' hw').mono fun e w'' hR=>?_⟩)⟩;obtain ⟨v,he,hs,hx⟩:=n w' e w'' hw' hR;exact ⟨v,he,hs,none,jE.no,fun w3 hw3=>hx (XL.tail hl) w3 hw3 (hC _ _ hs hw3) _ (ha.put (wC hd) v)⟩
theorem XL_mk {A:Nat→Prop}{B:Nat}{m:Mk}{cs:List Value}{T:TypeId}(hC: ∀w w',I w→fJ w w'→I w')(hk:kdOf κ k= .mk B)(hw:dA N ops ρ ⟨some d,op,ty,pos,af,g⟩=true)(hd:Nat.blt d N=true)
    (h: ∀w',I w'→Do P ⟨some d,op,ty,pos,af,g⟩ ρ w' (m.val w'.heap.size) (w'.alloc (.cells cs.toArray T)))
    (n: ∀b w'',fJ w w''→B≤b→ ¬A b→Blk w'' b cs T→XL P I N ops κ K (some fun x=>x=b∨A x) σ rest (upd ρ d (m.val b)) w''):XL P I N ops κ K (some A) (k :: σ) (⟨some d,op,ty,pos,af,g⟩ :: rest) ρ w:=by
 intro hl w' hw' hI a ha;simp only [dO];unfold xOp;simp only [XL.head hl,hk];refine .inl ⟨by rw [ha.wanted]; exact hw,A,m,cs,T,rfl,fun w2 h2=>by rw [ha.eval]; exact h w2 h2,fun b w3 q1 q2 q3 q4=>?_⟩;exact n b w3 (hw'.trans q1) q2 q3 q4 (XL.tail hl) w3 (fJ.refl _) (hC _ _ hI q1) _ (ha.put (wC hd) _)
theorem XL_exA {R:World→Value→World→Prop}(hC: ∀w w',I w→fJ w w'→I w')(hk:kdOf κ k= .eff)(hw:dA N ops ρ ⟨some d,op,ty,pos,af,g⟩=true)(hd:Nat.blt d N=true)(h: ∀w1,fJ w w1→ ∃v w',Do P ⟨some d,op,ty,pos,af,g⟩ ρ w1 v w'∧R w1 v w')
    (n: ∀w1 v w',fJ w w1→R w1 v w'→I w'∧XL P I N ops κ K (some fun x=>x<w'.heap.size) σ rest (upd ρ d v) w'):XL P I N ops κ K M (k :: σ) (⟨some d,op,ty,pos,af,g⟩ :: rest) ρ w:=by
 intro hl w' hw' hI a ha;obtain ⟨v,w'',h1,h2⟩:=h w' hw';simp only [dO];unfold xOp;simp only [XL.head hl,hk];have h3:=n _ _ _ hw' h2;exact .inl ⟨by rw [ha.wanted]; exact hw,.inl ⟨v,w'',by rw [ha.eval]; exact h1,h3.1,_,fun A e x hx=>by cases e; exact hx,fun w3 hw3=>h3.2 (XL.tail hl) w3 hw3 (hC _ _ h3.1 hw3) _ (ha.put (wC hd) v)⟩⟩
theorem upd_comm (ρ:Env){d e:Nat}(h:d≠e)(u v:Value):upd (upd ρ d u) e v=upd (upd ρ e v) d u:=by
 funext x;unfold upd;by_cases h1:x=e<;>by_cases h2:x=d<;>simp [h1,h2];exact absurd (h2.symm.trans h1) h;intro h3; exact absurd h3.symm h;intro h3; exact absurd h3 h
theorem XL_join {u v du dv:Nat}{ou ov:Oper}(Mid:Value→Value→World→Prop)
    (hA:XL P I N ops κ (fun _ ρ' w'=> ∃va vb,ρ'=upd (upd ρ du va) dv vb∧I w'∧Mid va vb w') M [u,v] [ou,ov] ρ w)
    (hB:XL P I N ops κ (fun _ ρ' w'=> ∃va vb,ρ'=upd (upd ρ du va) dv vb∧I w'∧Mid va vb w') M [v,u] [ov,ou] ρ w)
    (post: ∀M' va vb w',Mid va vb w'→XL P I N ops κ K M' σ rest (upd (upd ρ du va) dv vb) w'):
    XL P I N ops κ K M (u :: v :: σ) (ou :: ov :: rest) ρ w∧XL P I N ops κ K M (v :: u :: σ) (ov :: ou :: rest) ρ w:=by
  have go: ∀{p q:Nat} {op oq:Oper},XL P I N ops κ (fun _ ρ' w'=> ∃va vb,ρ'=upd (upd ρ du va) dv vb∧I w'∧Mid va vb w') M [p,q] [op,oq] ρ w→XL P I N ops κ K M (p :: q :: σ) (op :: oq :: rest) ρ w:=by
    intro p q op oq h hl w' hw' hI a ha
    have hl2:rest.map some=σ.map fun i=>ops[i]? :=XL.tail (XL.tail hl)
    have hl1: [op,oq].map some= [p,q].map fun i=>ops[i]? :=by
      simp only [List.map_cons,List.cons.injEq,List.map_nil] at hl ⊢
      exact ⟨hl.1,hl.2.1,trivial⟩
    have h1:=h hl1 w' hw' hI a ha
    have e:p :: q :: σ= [p,q]++σ:=rfl
    rw [e,rM]
    refine jP (fun M' a w2 ⟨ρ',hf,va,vb,hρ,hIw,hm⟩=>?_) [p,q] M a w' h1
    subst hρ
    exact post M' va vb w2 hm hl2 w2 (fJ.refl w2) hIw a hf
  exact ⟨go hA,go hB⟩
theorem WP_fork {id:Nat}{l:List Oper}{I0:World→Prop}(pre:List Nat)(u v:Nat)(post l2:List Nat)(κ:List Kd)(hB: ∀i B,kdOf κ i= .mk B→ ∀w,I w→B≤w.heap.size)(hB0: ∀i B,kdOf κ i= .mk B→ ∀w,I0 w→B≤w.heap.size)(hm:P.follows .mixedOrders=true)(hs:Region.noSelect l.toArray=true)(hed:edgesB .any l.toArray=true)(hp:forkB .any l.toArray (kdOf κ) pre u v post=true)(hb:barB .any l.toArray (kdOf κ) (pre++u :: v :: post) l2=true)(hp2:pairB .any l.toArray (kdOf κ) l2=true)
    (hσ:(pre++u :: v :: (post++l2)).isPerm (List.range l.length)=true)(hI: ∀w w',I w→fJ w w'→I w')(hI0: ∀w w',I0 w→fJ w w'→I0 w')(hw:I w)
    (h:XL P I N l.toArray κ (fun M ρ w=>XL P I N l.toArray κ (fun _ ρ w=>I0 w∧XL P I0 N l.toArray κ (fun _ ρ w=>Q .normal ρ w) none l2 (sel l l2) ρ w) M (u :: v :: post) (sel l (u :: v :: post)) ρ w∧XL P I N l.toArray κ (fun _ ρ w=>I0 w∧XL P I0 N l.toArray κ (fun _ ρ w=>Q .normal ρ w) none l2 (sel l l2) ρ w) M (v :: u :: post) (sel l (v :: u :: post)) ρ w) (some fun _=>False) pre (sel l pre) ρ w):WP P N (.region id l.toArray true) Q ρ w:=by
  have hσ:(pre++u :: v :: (post++l2)).Perm (List.range l.length):=List.isPerm_iff.1 hσ
  have hlt: ∀i ∈ pre++u :: v :: (post++l2),i<l.length:=fun i hi=>List.mem_range.1 (hσ.mem_iff.1 hi)
  intro a ha
  refine aIm (I:=I) (I0:=I0) (pre:=pre) (post:=post) (l2:=l2) (u:=u) (v:=v) hB hB0 hm hs hed hp hb hp2 hσ hI hI0 hw (fun w' hw'=>?_)
  have h1:=h (aEd l pre fun i hi=>hlt i (List.mem_append_left _ hi)) w' hw' (hI _ _ hw hw') a ha
  have h2:=aOc hI pre _ a w' (hI _ _ hw hw') (fun A e x hx=>by cases e; exact hx.elim) h1
  have fin: ∀{a w},(∃ρ',Fits N a ρ'∧(I0 w∧XL P I0 N l.toArray κ (fun _ ρ w=>Q .normal ρ w) none l2 (sel l l2) ρ' w))→I0 w∧dO P I0 l.toArray (kdOf κ) (fun _ a w=> ∃ρ',Fits N a ρ'∧Q .normal ρ' w) l2 none a w:=fun {a w} ⟨ρ',hf,h0,hx⟩=>
    ⟨h0,hx (aEd l l2 fun i hi=>hlt i (List.mem_append_right _ (List.mem_cons_of_mem _ (List.mem_cons_of_mem _ (List.mem_append_right _ hi))))) w (fJ.refl w) h0 a hf⟩
  refine jP (fun M a w ⟨hIw,ρ',hf,hA,hB⟩=>⟨?_,?_⟩) pre _ a w' h2
  · exact jP (fun _ _ _ h=>fin h) _ _ _ _ (hA (aEd l _ fun i hi=>hlt i (List.mem_append_right _ (by simp at hi ⊢; rcases hi with h | h | h<;>simp [h]))) w (fJ.refl w) hIw a hf)
  · exact jP (fun _ _ _ h=>fin h) _ _ _ _ (hB (aEd l _ fun i hi=>hlt i (List.mem_append_right _ (by simp at hi ⊢; rcases hi with h | h | h<;>simp [h]))) w (fJ.refl w) hIw a hf)
end
end Go.MxM
