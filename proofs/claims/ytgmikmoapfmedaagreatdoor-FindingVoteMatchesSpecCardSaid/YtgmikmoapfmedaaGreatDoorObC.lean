/- Walks: what each function computes, for every argument; no condition but those that stand in the statements. -/
import Derived.Test.YtgmikmoapfmedaaGreatDoorObB
namespace Go.MxM
open Go.OB
open Go.RowKit

inductive Kd where
  | pure | fcall | read | new | eff
  | mk (B:Nat)
inductive Mk where
  | ptr
  | sl (n:Nat)
def Mk.val:Mk→Nat→Value
  | .ptr,b=> .pointer (some ⟨b,0,none⟩)
  | .sl n,b=> .slice (some ⟨b,0,none⟩) n n
theorem Mk.inj {m m':Mk}{b:Nat}(h:m.val b=m'.val b):m=m':=by
  cases m<;>cases m'<;>simp [Mk.val] at h ⊢
  exact h
abbrev Mm:=Option (Nat→Prop)
def Kd.isMk:Kd→Bool
  | .mk _=>true | _=>false
theorem alloc_inj {w:World}{cs cs':List Value}{T T':TypeId}(h:w.alloc (.cells cs.toArray T)=w.alloc (.cells cs'.toArray T')):cs=cs'∧T=T':=by
  have h1:=(Al.mk' w cs T).blk
  rw [h] at h1
  have h2:=(Al.mk' w cs' T').blk
  unfold Blk at h1 h2
  rw [h1] at h2
  simp at h2
  exact h2
theorem Blk.sees {w w':World}{b:Nat}{cs:List Value}{T:TypeId}(h:Blk w b cs T)(hs:fD w w'):Blk w' b cs T:=h.only (Only.of_below hs) (by simp)
def Kd.isPure:Kd→Bool
  | .pure=>true | _=>false
def Kd.isFcall:Kd→Bool
  | .fcall=>true | _=>false
def Kd.isRead:Kd→Bool
  | .read=>true | _=>false
def Kd.isNew:Kd→Bool
  | .new=>true | _=>false
def vK (P:Program)(I:World→Prop)(ops:Array Oper)(o:Oper)(v:Value)(a:Act):Prop:=
  (Region.wanted o (yielded ops a.tmps)=true∧ ∀w',I w'→(execOp a.eval o).run P w'= .ok (.value v) w')∨(Region.wanted o (yielded ops a.tmps)=false∧v=undef)
def uF (P:Program)(I:World→Prop)(ops:Array Oper)(o:Oper)(v:Value)(a:Act):Prop:=
  (Region.wanted o (yielded ops a.tmps)=true∧ ∀w',I w'→kV P w' v ((execOp a.eval o).run P w'))∨(Region.wanted o (yielded ops a.tmps)=false∧v=undef)

def kQ (M:Mm)(w:World):Prop:= ∀A,M=some A→ ∀x,A x→x<w.heap.size
theorem kQ.sees {M:Mm}{w w':World}(h:kQ M w)(hs:fD w w'):kQ M w':=fun A e x hx=>Nat.lt_of_lt_of_le (h A e x hx) hs.size
theorem kQ.no {w:World}:kQ none w:=fun _ e=>by cases e
theorem kQ.mk {A:Nat→Prop}{w w':World}{b:Nat}{cs:List Value}{T:TypeId}(h:kQ (some A) w)(hs:fD w w')(hb:Blk w' b cs T):kQ (some fun x=>x=b∨A x) w':=by
  intro A' e x hx
  cases e
  rcases hx with rfl | hx
  · exact (Array.getElem?_eq_some_iff.1 hb).1
  · exact (h.sees hs) A rfl x hx
theorem kQ.new {A:Nat→Prop}{w:World}(h:kQ (some A) w): ¬A w.heap.size:=fun hx=>Nat.lt_irrefl _ (h A rfl _ hx)

def xOp (P:Program)(I:World→Prop)(ops:Array Oper)(kd:Nat→Kd)(i:Nat)(K:Mm→Act→World→Prop)(M:Mm)(a:Act)(w:World):Prop:=
  match ops[i]? with
  | none=>False
  | some o=>match kd i with
    | .pure=> ∃v,vK P I ops o v a∧K M (a.put o.dst v) w
    | .fcall=> ∃v,uF P I ops o v a∧ ∀w',fD w w'→K M (a.put o.dst v) w'
    | .read=> ∃v,kU P ops w o v a∧ ∀w',fD w w'→K M (a.put o.dst v) w'
    | .new=>(Region.wanted o (yielded ops a.tmps)=true∧
        ((∃v w',(execOp a.eval o).run P w= .ok (.value v) w'∧fD w w'∧ ∀w'',fD w' w''→K M (a.put o.dst v) w'')∨
         (∃f args,(execOp a.eval o).run P w= .ok (.enter f args) w∧Calls P f args w fun e w'=> ∃v,e= .returned v∧fD w w'∧ ∀w'',fD w' w''→K M (a.put o.dst v) w'')))∨
        (Region.wanted o (yielded ops a.tmps)=false∧ ∀w'',fD w w''→K M (a.put o.dst undef) w'')
    | .eff=>(Region.wanted o (yielded ops a.tmps)=true∧
        ((∃v w',(execOp a.eval o).run P w= .ok (.value v) w'∧I w'∧ ∃M',kQ M' w'∧ ∀w'',fD w' w''→K M' (a.put o.dst v) w'')∨(∃w',(execOp a.eval o).run P w= .ok .skip w'∧I w'∧ ∃M',kQ M' w'∧ ∀w'',fD w' w''→K M' (a.put o.dst undef) w'')∨
         (∃f args,(execOp a.eval o).run P w= .ok (.enter f args) w∧Calls P f args w fun e w'=> ∃v,e= .returned v∧I w'∧ ∃M',kQ M' w'∧ ∀w'',fD w' w''→K M' (a.put o.dst v) w'')))∨
        (Region.wanted o (yielded ops a.tmps)=false∧ ∀w'',fD w w''→K M (a.put o.dst undef) w'')
    | .mk B=>(Region.wanted o (yielded ops a.tmps)=true∧ ∃(A:Nat→Prop) (m:Mk) (cs:List Value) (T:TypeId),M=some A∧(∀w',I w'→(execOp a.eval o).run P w'= .ok (.value (m.val w'.heap.size)) (w'.alloc (.cells cs.toArray T)))∧
        ∀b w'',fD w w''→B≤b→ ¬A b→Blk w'' b cs T→K (some fun x=>x=b∨A x) (a.put o.dst (m.val b)) w'')∨
        (Region.wanted o (yielded ops a.tmps)=false∧ ∀w'',fD w w''→K M (a.put o.dst undef) w'')

def aA (P:Program)(I:World→Prop)(ops:Array Oper)(kd:Nat→Kd)(Q:Mm→Act→World→Prop):List Nat→Mm→Act→World→Prop
  | [],M,a,w=>Q M a w
  | i :: l,M,a,w=>xOp P I ops kd i (aA P I ops kd Q l) M a w

section
variable {P:Program} {I:World→Prop} {ops:Array Oper} {kd:Nat→Kd} {Q:Mm→Act→World→Prop}

theorem uN {i : Nat} {K K' : Mm → Act → World → Prop} {M : Mm} {a : Act} {w : World} (h : ∀ o M v w, ops[i]? = some o → K M (a.put o.dst v) w → K' M (a.put o.dst v) w) (hh : xOp P I ops kd i K M a w) : xOp P I ops kd i K' M a w := by
  unfold xOp at *
  cases ho : ops[i]? with
  | none => simp only [ho] at hh
  | some o =>
    have h := fun M v w => h o M v w ho
    simp only [ho] at hh ⊢
    cases hk : kd i <;> simp only [hk] at hh ⊢
    · obtain ⟨v, h1, h2⟩ := hh; exact ⟨v, h1, h _ _ _ h2⟩
    · obtain ⟨v, h1, h2⟩ := hh; exact ⟨v, h1, fun w' hw => h _ _ _ (h2 w' hw)⟩
    · obtain ⟨v, h1, h2⟩ := hh; exact ⟨v, h1, fun w' hw => h _ _ _ (h2 w' hw)⟩
    · rcases hh with ⟨h0, hh⟩ | ⟨h0, hh⟩
      rotate_left
      · exact .inr ⟨h0, fun w'' hw => h _ _ _ (hh w'' hw)⟩
      refine .inl ⟨h0, ?_⟩
      rcases hh with ⟨v, w', h1, h3, h2⟩ | ⟨f, args, h1, h2⟩
      · exact .inl ⟨v, w', h1, h3, fun w'' hw => h _ _ _ (h2 w'' hw)⟩
      · exact .inr ⟨f, args, h1, h2.mono fun e w' ⟨v, he, h3, hk⟩ => ⟨v, he, h3, fun w'' hw => h _ _ _ (hk w'' hw)⟩⟩
    · rcases hh with ⟨h0, hh⟩ | ⟨h0, hh⟩
      rotate_left
      · exact .inr ⟨h0, fun w'' hw => h _ _ _ (hh w'' hw)⟩
      refine .inl ⟨h0, ?_⟩
      rcases hh with ⟨v, w', h1, h3, M', hM', h2⟩ | ⟨w', h1, h3, M', hM', h2⟩ | ⟨f, args, h1, h2⟩
      · exact .inl ⟨v, w', h1, h3, M', hM', fun w'' hw => h _ _ _ (h2 w'' hw)⟩
      · exact .inr (.inl ⟨w', h1, h3, M', hM', fun w'' hw => h _ _ _ (h2 w'' hw)⟩)
      · exact .inr (.inr ⟨f, args, h1, h2.mono fun e w' ⟨v, he, h3, M', hM', hk⟩ => ⟨v, he, h3, M', hM', fun w'' hw => h _ _ _ (hk w'' hw)⟩⟩)
    · rcases hh with ⟨h0, A, m, cs, T, hA, h1, h2⟩ | ⟨h0, hh⟩
      · exact .inl ⟨h0, A, m, cs, T, hA, h1, fun b w'' q1 q2 q3 q4 => h _ _ _ (h2 b w'' q1 q2 q3 q4)⟩
      · exact .inr ⟨h0, fun w'' hw => h _ _ _ (hh w'' hw)⟩

theorem qL {i:Nat}{K K':Mm→Act→World→Prop}(h: ∀M a w,K M a w→K' M a w){M:Mm}{a:Act}{w:World}(hh:xOp P I ops kd i K M a w):xOp P I ops kd i K' M a w:=uN (fun _ _ _ _ _=>h _ _ _) hh

theorem xOp_inv {i : Nat} {K : Mm → Act → World → Prop} {M : Mm} {a : Act} {w : World} (hI : ∀ w w', I w → fD w w' → I w') (hw : I w) (hM : kQ M w) (hh : xOp P I ops kd i K M a w) : xOp P I ops kd i (fun M a w => I w ∧ kQ M w ∧ K M a w) M a w := by
  unfold xOp at *
  cases ho : ops[i]? with
  | none => simp only [ho] at hh
  | some o =>
    simp only [ho] at hh ⊢
    cases hk : kd i <;> simp only [hk] at hh ⊢
    · obtain ⟨v, h1, h2⟩ := hh; exact ⟨v, h1, hw, hM, h2⟩
    · obtain ⟨v, h1, h2⟩ := hh; exact ⟨v, h1, fun w' hs => ⟨hI _ _ hw hs, hM.sees hs, h2 w' hs⟩⟩
    · obtain ⟨v, h1, h2⟩ := hh; exact ⟨v, h1, fun w' hs => ⟨hI _ _ hw hs, hM.sees hs, h2 w' hs⟩⟩
    · rcases hh with ⟨h0, hh⟩ | ⟨h0, hh⟩
      rotate_left
      · exact .inr ⟨h0, fun w'' hs => ⟨hI _ _ hw hs, hM.sees hs, hh w'' hs⟩⟩
      refine .inl ⟨h0, ?_⟩
      rcases hh with ⟨v, w', h1, h3, h2⟩ | ⟨f, args, h1, h2⟩
      · exact .inl ⟨v, w', h1, h3, fun w'' hs => ⟨hI _ _ (hI _ _ hw h3) hs, (hM.sees h3).sees hs, h2 w'' hs⟩⟩
      · exact .inr ⟨f, args, h1, h2.mono fun e w' ⟨v, he, h3, hk⟩ => ⟨v, he, h3, fun w'' hs => ⟨hI _ _ (hI _ _ hw h3) hs, (hM.sees h3).sees hs, hk w'' hs⟩⟩⟩
    · rcases hh with ⟨h0, hh⟩ | ⟨h0, hh⟩
      rotate_left
      · exact .inr ⟨h0, fun w'' hs => ⟨hI _ _ hw hs, hM.sees hs, hh w'' hs⟩⟩
      refine .inl ⟨h0, ?_⟩
      rcases hh with ⟨v, w', h1, h3, M', hM', h2⟩ | ⟨w', h1, h3, M', hM', h2⟩ | ⟨f, args, h1, h2⟩
      · exact .inl ⟨v, w', h1, h3, M', hM', fun w'' hs => ⟨hI _ _ h3 hs, hM'.sees hs, h2 w'' hs⟩⟩
      · exact .inr (.inl ⟨w', h1, h3, M', hM', fun w'' hs => ⟨hI _ _ h3 hs, hM'.sees hs, h2 w'' hs⟩⟩)
      · exact .inr (.inr ⟨f, args, h1, h2.mono fun e w' ⟨v, he, h3, M', hM', hk⟩ => ⟨v, he, h3, M', hM', fun w'' hs => ⟨hI _ _ h3 hs, hM'.sees hs, hk w'' hs⟩⟩⟩)
    · rcases hh with ⟨h0, A, m, cs, T, hA, h1, h2⟩ | ⟨h0, hh⟩
      · subst hA; exact .inl ⟨h0, A, m, cs, T, rfl, h1, fun b w'' q1 q2 q3 q4 => ⟨hI _ _ hw q1, hM.mk q1 q4, h2 b w'' q1 q2 q3 q4⟩⟩
      · exact .inr ⟨h0, fun w'' hs => ⟨hI _ _ hw hs, hM.sees hs, hh w'' hs⟩⟩
theorem rV {i : Nat} {o : Oper} (ho : ops[i]? = some o) {K : Act → World → Prop} {Qx : Exit → Act → World → Prop} {a : Act} {w : World} {v : Value}
    (hy : (Region.wanted o (yielded ops a.tmps) = true ∧ kV P w v ((execOp a.eval o).run P w)) ∨ (Region.wanted o (yielded ops a.tmps) = false ∧ v = undef)) (hK : ∀ w', fD w w' → K (a.put o.dst v) w') : wpOp P ops Qx i K a w := by
  unfold wpOp
  simp only [ho]
  rcases hy with ⟨hw, this⟩ | ⟨hw, rfl⟩
  · rw [if_pos hw]
    refine .inl ?_
    unfold Oper.wp
    generalize (execOp a.eval o).run P w = r at this
    cases r with
    | ok n w' =>
      cases n <;> simp only [kV] at this <;> simp only [Oper.upon]
      case value u => obtain ⟨rfl, rfl⟩ := this; exact hK _ (fD.refl _)
      case skip => obtain ⟨rfl, rfl⟩ := this; exact hK _ (fD.refl _)
      case enter f args =>
        obtain ⟨rfl, hc⟩ := this
        exact hc.mono fun e w'' ⟨he, hs⟩ => by subst he; exact hK _ hs
    | halt x w' => simp only [kV] at this
  · rw [if_neg (by rw [hw]; exact Bool.false_ne_true)]; exact hK _ (fD.refl _)
theorem sees_alloc (w:World)(o:Obj):fD w (w.alloc o):=(Below.refl _ w).alloc (Nat.le_refl _) _
theorem aDf {i : Nat} {K : Mm → Act → World → Prop} {Qx : Exit → Act → World → Prop} {M : Mm} {a : Act} {w : World} (hB : ∀ i B, kd i = .mk B → ∀ w, I w → B ≤ w.heap.size) (hI : ∀ w w', I w → fD w w' → I w') (hw : I w) (hM : kQ M w) (h : xOp P I ops kd i K M a w) : wpOp P ops Qx i (fun a w => ∃ M, I w ∧ kQ M w ∧ K M a w) a w := by
  unfold xOp at h
  cases ho : ops[i]? with
  | none => simp only [ho] at h
  | some o =>
    simp only [ho] at h
    cases hk : kd i <;> simp only [hk] at h
    · obtain ⟨v, hy, hK⟩ := h
      unfold wpOp
      simp only [ho]
      rcases hy with ⟨q1, q2⟩ | ⟨q1, rfl⟩
      · rw [if_pos q1]
        refine .inl ?_
        unfold Oper.wp
        rw [q2 w hw]; exact ⟨M, hw, hM, hK⟩
      · rw [if_neg (by rw [q1]; exact Bool.false_ne_true)]; exact ⟨M, hw, hM, hK⟩
    · obtain ⟨v, hy, hK⟩ := h
      exact rV ho (hy.imp (fun ⟨q1, q2⟩ => ⟨q1, q2 w hw⟩) id) fun w' hs => ⟨M, hI _ _ hw hs, hM.sees hs, hK w' hs⟩
    · obtain ⟨v, hy, hK⟩ := h
      exact rV ho (hy.imp (fun ⟨q1, q2⟩ => ⟨q1, q2 w (fD.refl w)⟩) id) fun w' hs => ⟨M, hI _ _ hw hs, hM.sees hs, hK w' hs⟩
    · unfold wpOp
      simp only [ho]
      rcases h with ⟨h0, h⟩ | ⟨h0, h⟩
      rotate_left
      · rw [if_neg (by rw [h0]; exact Bool.false_ne_true)]; exact ⟨M, hw, hM, h _ (fD.refl _)⟩
      rw [if_pos h0]
      refine .inl ?_
      unfold Oper.wp
      rcases h with ⟨v, w', h1, h3, h2⟩ | ⟨f, args, h1, h2⟩
      · rw [h1]; exact ⟨M, hI _ _ hw h3, hM.sees h3, h2 _ (fD.refl _)⟩
      · rw [h1]; exact h2.mono fun e w' ⟨v, he, h3, hk⟩ => by subst he; exact ⟨M, hI _ _ hw h3, hM.sees h3, hk _ (fD.refl _)⟩
    · unfold wpOp
      simp only [ho]
      rcases h with ⟨h0, h⟩ | ⟨h0, h⟩
      rotate_left
      · rw [if_neg (by rw [h0]; exact Bool.false_ne_true)]; exact ⟨M, hw, hM, h _ (fD.refl _)⟩
      rw [if_pos h0]
      refine .inl ?_
      unfold Oper.wp
      rcases h with ⟨v, w', h1, h3, M', hM', h2⟩ | ⟨w', h1, h3, M', hM', h2⟩ | ⟨f, args, h1, h2⟩
      · rw [h1]; exact ⟨M', h3, hM', h2 _ (fD.refl _)⟩
      · rw [h1]; exact ⟨M', h3, hM', h2 _ (fD.refl _)⟩
      · rw [h1]; exact h2.mono fun e w' ⟨v, he, h3, M', hM', hk⟩ => by subst he; exact ⟨M', h3, hM', hk _ (fD.refl _)⟩
    · unfold wpOp
      simp only [ho]
      rcases h with ⟨h0, A, m, cs, T, rfl, h1, h2⟩ | ⟨h0, h⟩
      · rw [if_pos h0]
        refine .inl ?_
        unfold Oper.wp
        rw [h1 w hw]
        have hs := sees_alloc w (.cells cs.toArray T)
        exact ⟨_, hI _ _ hw hs, hM.mk hs (Al.mk' w cs T).blk, h2 _ _ hs (hB i _ hk w hw) hM.new (Al.mk' w cs T).blk⟩
      · rw [if_neg (by rw [h0]; exact Bool.false_ne_true)]; exact ⟨M, hw, hM, h _ (fD.refl _)⟩

theorem vK.of_same {o:Oper}{v:Value}{a a':Act}(hy:vK P I ops o v a)(he:execOp a'.eval o=execOp a.eval o)
    (hw:Region.wanted o (yielded ops a'.tmps)=Region.wanted o (yielded ops a.tmps)):vK P I ops o v a':=by
  unfold vK at *; rw [he,hw]; exact hy
theorem uF.of_same {o:Oper}{v:Value}{a a':Act}(hy:uF P I ops o v a)(he:execOp a'.eval o=execOp a.eval o)
    (hw:Region.wanted o (yielded ops a'.tmps)=Region.wanted o (yielded ops a.tmps)):uF P I ops o v a':=by
  unfold uF at *; rw [he,hw]; exact hy
def rD (ops:Array Oper)(kd:Nat→Kd)(i j:Nat):Bool:=
  match ops[i]?,ops[j]? with
  | some oi,some oj=>oi.apart ops oj && oj.apart ops oi && ((kd i).isPure || (kd j).isPure || (kd i).isFcall || ((kd i).isRead && ((kd j).isFcall || (kd j).isRead || (kd j).isNew || (kd j).isMk)) || ((kd i).isMk && (kd j).isMk))
  | _,_=>false

theorem aAp {i : Nat} {oi oj : Oper} (hi : ops[i]? = some oi) (hij : oi.apart ops oj = true) (hsi : ∀ cs b, oi.op ≠ .select cs b) {u : Value}
    {K : Mm → Act → World → Prop} {M : Mm} {a : Act} {w : World} (h : xOp P I ops kd i (fun M a' w' => K M (a'.put oj.dst u) w') M a w) : xOp P I ops kd i K M (a.put oj.dst u) w := by
  obtain ⟨h1, h2, h3⟩ := Oper.apart_spec hij
  have he : execOp (a.put oj.dst u).eval oi = execOp a.eval oi := execOp_put oi hsi a oj.dst u h3
  have hw : Region.wanted oi (yielded ops (a.put oj.dst u).tmps) = Region.wanted oi (yielded ops a.tmps) := wanted_put oi a oj.dst u h3
  have hc : ∀ v, (a.put oj.dst u).put oi.dst v = (a.put oi.dst v).put oj.dst u := fun v => (Act.put_comm a v u h2).symm
  unfold xOp at *
  simp only [hi] at h ⊢
  cases hk : kd i <;> simp only [hk] at h ⊢
  · obtain ⟨v, hy, hK⟩ := h; exact ⟨v, hy.of_same he hw, by rw [hc]; exact hK⟩
  · obtain ⟨v, hy, hK⟩ := h; exact ⟨v, hy.of_same he hw, fun w' hs => by rw [hc]; exact hK w' hs⟩
  · obtain ⟨v, hy, hK⟩ := h; exact ⟨v, hy.of_same he hw, fun w' hs => by rw [hc]; exact hK w' hs⟩
  · rw [he, hw]
    rcases h with ⟨h0, h⟩ | ⟨h0, h⟩
    rotate_left
    · exact .inr ⟨h0, fun w'' hs => by rw [hc]; exact h w'' hs⟩
    refine .inl ⟨h0, ?_⟩
    rcases h with ⟨v, w', h1, h3, h2⟩ | ⟨f, args, h1, h2⟩
    · exact .inl ⟨v, w', h1, h3, fun w'' hs => by rw [hc]; exact h2 w'' hs⟩
    · exact .inr ⟨f, args, h1, h2.mono fun e w' ⟨v, he, h3, hk⟩ => ⟨v, he, h3, fun w'' hs => by rw [hc]; exact hk w'' hs⟩⟩
  · rw [he, hw]
    rcases h with ⟨h0, h⟩ | ⟨h0, h⟩
    rotate_left
    · exact .inr ⟨h0, fun w'' hs => by rw [hc]; exact h w'' hs⟩
    refine .inl ⟨h0, ?_⟩
    rcases h with ⟨v, w', h1, h3, M', hM', h2⟩ | ⟨w', h1, h3, M', hM', h2⟩ | ⟨f, args, h1, h2⟩
    · exact .inl ⟨v, w', h1, h3, M', hM', fun w'' hs => by rw [hc]; exact h2 w'' hs⟩
    · exact .inr (.inl ⟨w', h1, h3, M', hM', fun w'' hs => by rw [hc]; exact h2 w'' hs⟩)
    · exact .inr (.inr ⟨f, args, h1, h2.mono fun e w' ⟨v, he, h3, M', hM', hk⟩ => ⟨v, he, h3, M', hM', fun w'' hs => by rw [hc]; exact hk w'' hs⟩⟩)
  · rw [he, hw]
    rcases h with ⟨h0, A, m, cs, T, hA, h1, h2⟩ | ⟨h0, h⟩
    · exact .inl ⟨h0, A, m, cs, T, hA, h1, fun b w'' q1 q2 q3 q4 => by rw [hc]; exact h2 b w'' q1 q2 q3 q4⟩
    · exact .inr ⟨h0, fun w'' hs => by rw [hc]; exact h w'' hs⟩
theorem jS {i : Nat} {oi oj : Oper} (hi : ops[i]? = some oi) (hij : oi.apart ops oj = true) (hsi : ∀ cs b, oi.op ≠ .select cs b) {u : Value}
    {K : Mm → Act → World → Prop} {M : Mm} {a : Act} {w : World} (h : xOp P I ops kd i K M (a.put oj.dst u) w) : xOp P I ops kd i (fun M a' w' => K M (a'.put oj.dst u) w') M a w := by
  obtain ⟨h1, h2, h3⟩ := Oper.apart_spec hij
  have he : execOp (a.put oj.dst u).eval oi = execOp a.eval oi := execOp_put oi hsi a oj.dst u h3
  have hw : Region.wanted oi (yielded ops (a.put oj.dst u).tmps) = Region.wanted oi (yielded ops a.tmps) := wanted_put oi a oj.dst u h3
  have hc : ∀ v, (a.put oj.dst u).put oi.dst v = (a.put oi.dst v).put oj.dst u := fun v => (Act.put_comm a v u h2).symm
  unfold xOp at *
  simp only [hi] at h ⊢
  cases hk : kd i <;> simp only [hk] at h ⊢
  · obtain ⟨v, hy, hK⟩ := h; exact ⟨v, hy.of_same he.symm hw.symm, by rw [← hc]; exact hK⟩
  · obtain ⟨v, hy, hK⟩ := h; exact ⟨v, hy.of_same he.symm hw.symm, fun w' hs => by rw [← hc]; exact hK w' hs⟩
  · obtain ⟨v, hy, hK⟩ := h; exact ⟨v, hy.of_same he.symm hw.symm, fun w' hs => by rw [← hc]; exact hK w' hs⟩
  · rw [he, hw] at h
    rcases h with ⟨h0, h⟩ | ⟨h0, h⟩
    rotate_left
    · exact .inr ⟨h0, fun w'' hs => by rw [← hc]; exact h w'' hs⟩
    refine .inl ⟨h0, ?_⟩
    rcases h with ⟨v, w', h1, h3, h2⟩ | ⟨f, args, h1, h2⟩
    · exact .inl ⟨v, w', h1, h3, fun w'' hs => by rw [← hc]; exact h2 w'' hs⟩
    · exact .inr ⟨f, args, h1, h2.mono fun e w' ⟨v, he, h3, hk⟩ => ⟨v, he, h3, fun w'' hs => by rw [← hc]; exact hk w'' hs⟩⟩
  · rw [he, hw] at h
    rcases h with ⟨h0, h⟩ | ⟨h0, h⟩
    rotate_left
    · exact .inr ⟨h0, fun w'' hs => by rw [← hc]; exact h w'' hs⟩
    refine .inl ⟨h0, ?_⟩
    rcases h with ⟨v, w', h1, h3, M', hM', h2⟩ | ⟨w', h1, h3, M', hM', h2⟩ | ⟨f, args, h1, h2⟩
    · exact .inl ⟨v, w', h1, h3, M', hM', fun w'' hs => by rw [← hc]; exact h2 w'' hs⟩
    · exact .inr (.inl ⟨w', h1, h3, M', hM', fun w'' hs => by rw [← hc]; exact h2 w'' hs⟩)
    · exact .inr (.inr ⟨f, args, h1, h2.mono fun e w' ⟨v, he, h3, M', hM', hk⟩ => ⟨v, he, h3, M', hM', fun w'' hs => by rw [← hc]; exact hk w'' hs⟩⟩)
  · rw [he, hw] at h
    rcases h with ⟨h0, A, m, cs, T, hA, h1, h2⟩ | ⟨h0, h⟩
    · exact .inl ⟨h0, A, m, cs, T, hA, h1, fun b w'' q1 q2 q3 q4 => by rw [← hc]; exact h2 b w'' q1 q2 q3 q4⟩
    · exact .inr ⟨h0, fun w'' hs => by rw [← hc]; exact h w'' hs⟩

theorem tX {i : Nat} {oi : Oper} (hi : ops[i]? = some oi) {K : Mm → Act → World → Prop} {M : Mm} {a : Act} {w : World} (hB : ∀ i B, kd i = .mk B → ∀ w, I w → B ≤ w.heap.size) (hI : ∀ w w', I w → fD w w' → I w') (hw : I w) (hM : kQ M w) (h : xOp P I ops kd i K M a w) : ∃ v w' M', I w' ∧ K M' (a.put oi.dst v) w' := by
  unfold xOp at h
  simp only [hi] at h
  cases hk : kd i <;> simp only [hk] at h
  · obtain ⟨v, _, hK⟩ := h; exact ⟨v, w, _, hw, hK⟩
  · obtain ⟨v, _, hK⟩ := h; exact ⟨v, w, _, hw, hK w (fD.refl w)⟩
  · obtain ⟨v, _, hK⟩ := h; exact ⟨v, w, _, hw, hK w (fD.refl w)⟩
  · rcases h with h | ⟨_, h⟩
    rotate_left
    · exact ⟨_, w, _, hw, h _ (fD.refl _)⟩
    rcases h.2 with ⟨v, w', _, h3, h2⟩ | ⟨f, args, _, h2⟩
    · exact ⟨v, w', _, hI _ _ hw h3, h2 _ (fD.refl _)⟩
    · obtain ⟨e, w', fr, ⟨v, _, h3, hk⟩, _⟩ := h2 []; exact ⟨v, w', _, hI _ _ hw h3, hk _ (fD.refl _)⟩
  · rcases h with h | ⟨_, h⟩
    rotate_left
    · exact ⟨_, w, _, hw, h _ (fD.refl _)⟩
    rcases h.2 with ⟨v, w', _, h3, M', hM', h2⟩ | ⟨w', _, h3, M', hM', h2⟩ | ⟨f, args, _, h2⟩
    · exact ⟨v, w', _, h3, h2 _ (fD.refl _)⟩
    · exact ⟨_, w', _, h3, h2 _ (fD.refl _)⟩
    · obtain ⟨e, w', fr, ⟨v, _, h3, M', hM', hk⟩, _⟩ := h2 []; exact ⟨v, w', _, h3, hk _ (fD.refl _)⟩
  · rcases h with ⟨h0, A, m, cs, T, rfl, h1, h2⟩ | ⟨_, h⟩
    · have hs := sees_alloc w (.cells cs.toArray T)
      exact ⟨_, _, _, hI _ _ hw hs, h2 _ _ hs (hB i _ hk w hw) hM.new (Al.mk' w cs T).blk⟩
    · exact ⟨_, w, _, hw, h _ (fD.refl _)⟩
theorem aAb {j : Nat} {oj : Oper} (hj : ops[j]? = some oj) (hnp : kd j ≠ .pure) {K K' : Mm → Act → World → Prop} {M : Mm} {a : Act} {w : World}
    (h : xOp P I ops kd j K M a w) (hn : ∀ u M w1 w', (kd j = .fcall ∨ kd j = .read ∨ kd j = .new ∨ (kd j).isMk = true → fD w w1) → (∀ w'', fD w1 w'' → K M (a.put oj.dst u) w'') → fD w1 w' → K' M (a.put oj.dst u) w') : xOp P I ops kd j K' M a w := by
  unfold xOp at *
  simp only [hj] at h ⊢
  cases hk : kd j <;> simp only [hk] at h ⊢ <;> simp only [hk] at hn
  · exact absurd hk hnp
  · obtain ⟨v, hy, hK⟩ := h; exact ⟨v, hy, fun w' hs => hn v _ w w' (fun _ => fD.refl w) hK hs⟩
  · obtain ⟨v, hy, hK⟩ := h; exact ⟨v, hy, fun w' hs => hn v _ w w' (fun _ => fD.refl w) hK hs⟩
  · rcases h with ⟨h0, h⟩ | ⟨h0, h⟩
    rotate_left
    · exact .inr ⟨h0, fun w' hs => hn _ _ w w' (fun _ => fD.refl w) h hs⟩
    refine .inl ⟨h0, ?_⟩
    rcases h with ⟨v, w', h1, h3, h2⟩ | ⟨f, args, h1, h2⟩
    · exact .inl ⟨v, w', h1, h3, fun w'' hs => hn v _ w' w'' (fun _ => h3) h2 hs⟩
    · exact .inr ⟨f, args, h1, h2.mono fun e w' ⟨v, he, h3, hk⟩ => ⟨v, he, h3, fun w'' hs => hn v _ w' w'' (fun _ => h3) hk hs⟩⟩
  · rcases h with ⟨h0, h⟩ | ⟨h0, h⟩
    rotate_left
    · exact .inr ⟨h0, fun w' hs => hn _ _ w w' (fun _ => fD.refl w) h hs⟩
    refine .inl ⟨h0, ?_⟩
    rcases h with ⟨v, w', h1, h3, M', hM', h2⟩ | ⟨w', h1, h3, M', hM', h2⟩ | ⟨f, args, h1, h2⟩
    · exact .inl ⟨v, w', h1, h3, M', hM', fun w'' hs => hn v _ w' w'' (fun h => by simp [Kd.isMk] at h) h2 hs⟩
    · exact .inr (.inl ⟨w', h1, h3, M', hM', fun w'' hs => hn _ _ w' w'' (fun h => by simp [Kd.isMk] at h) h2 hs⟩)
    · exact .inr (.inr ⟨f, args, h1, h2.mono fun e w' ⟨v, he, h3, M', hM', hk⟩ => ⟨v, he, h3, M', hM', fun w'' hs => hn v _ w' w'' (fun h => by simp [Kd.isMk] at h) hk hs⟩⟩)
  · rcases h with ⟨h0, A, m, cs, T, hA, h1, h2⟩ | ⟨h0, h⟩
    · exact .inl ⟨h0, A, m, cs, T, hA, h1, fun b w'' q1 q2 q5 q3 => hn _ _ w'' w'' (fun _ => q1) (fun w3 q4 => h2 b w3 (q1.trans q4) q2 q5 (q3.sees q4)) (fD.refl _)⟩
    · exact .inr ⟨h0, fun w' hs => hn _ _ w w' (fun _ => fD.refl w) h hs⟩

theorem xSwap {i j : Nat} (hB : ∀ i B, kd i = .mk B → ∀ w, I w → B ≤ w.heap.size) (hm : rD ops kd i j = true) (hs : ∀ (k : Nat) (o : Oper) cs b, ops[k]? = some o → o.op ≠ .select cs b) (hI : ∀ w w', I w → fD w w' → I w') {K : Mm → Act → World → Prop} {M : Mm} {a : Act} {w : World} (hw : I w) (hM : kQ M w)
    (h : xOp P I ops kd i (xOp P I ops kd j K) M a w) : xOp P I ops kd j (xOp P I ops kd i K) M a w := by
  unfold rD at hm
  cases hi : ops[i]? with
  | none => simp [hi] at hm
  | some oi =>
    cases hj : ops[j]? with
    | none => simp [hi, hj] at hm
    | some oj =>
      simp only [hi, hj, Bool.and_eq_true, Bool.or_eq_true] at hm
      obtain ⟨⟨hij, hji⟩, hk⟩ := hm
      have hsi := fun cs b => hs i oi cs b hi
      have hsj := fun cs b => hs j oj cs b hj
      obtain ⟨i1, i2, i3⟩ := Oper.apart_spec hij
      obtain ⟨j1, j2, j3⟩ := Oper.apart_spec hji
      have ei : ∀ {u : Value} {a : Act}, execOp (a.put oj.dst u).eval oi = execOp a.eval oi := execOp_put _ hsi _ _ _ i3
      have wi : ∀ {u : Value} {a : Act}, Region.wanted oi (yielded ops (a.put oj.dst u).tmps) = Region.wanted oi (yielded ops a.tmps) := wanted_put _ _ _ _ i3
      have ej : ∀ {u : Value} {a : Act}, execOp (a.put oi.dst u).eval oj = execOp a.eval oj := execOp_put _ hsj _ _ _ j3
      have wj : ∀ {u : Value} {a : Act}, Region.wanted oj (yielded ops (a.put oi.dst u).tmps) = Region.wanted oj (yielded ops a.tmps) := wanted_put _ _ _ _ j3
      have h0 := h
      by_cases hpj : (kd j).isPure = true
      · have hkj : kd j = .pure := by cases h' : kd j <;> simp_all [Kd.isPure]
        obtain ⟨v0, w0, M0, hw0, h1⟩ := tX hi hB hI hw hM h
        unfold xOp at h1
        simp only [hj, hkj] at h1
        obtain ⟨u, hy, _⟩ := h1
        have hy0 : vK P I ops oj u a := hy.of_same ej.symm wj.symm
        have hu : ∀ {M' : Mm} {a' : Act} {w' : World}, Region.wanted oj (yielded ops a'.tmps) = Region.wanted oj (yielded ops a.tmps) → execOp a'.eval oj = execOp a.eval oj → xOp P I ops kd j K M' a' w' → K M' (a'.put oj.dst u) w' := by
          intro M' a' w' hw' he' hx
          unfold xOp at hx
          simp only [hj, hkj] at hx
          obtain ⟨u', hy', hk'⟩ := hx
          have : u' = u := by
            have hy2 : vK P I ops oj u' a := hy'.of_same he'.symm hw'.symm
            rcases hy2 with ⟨q1, q2⟩ | ⟨q1, q2⟩ <;> rcases hy0 with ⟨r1, r2⟩ | ⟨r1, r2⟩
            · have := (q2 w hw).symm.trans (r2 w hw); injection this with this; injection this
            · rw [q1] at r1; cases r1
            · rw [q1] at r1; cases r1
            · rw [q2, r2]
          rw [← this]; exact hk'
        have h2 : xOp P I ops kd i (fun M a' w' => K M (a'.put oj.dst u) w') M a w := uN (fun o M v w' ho hx => by rw [hi] at ho; cases ho; exact hu wj ej hx) h
        conv => unfold xOp
        simp only [hj, hkj]
        exact ⟨u, hy0, aAp hi hij hsi h2⟩
      have hnp : kd j ≠ .pure := fun e => hpj (by rw [e]; rfl)
      by_cases hpi : (kd i).isPure = true
      · have hki : kd i = .pure := by cases h' : kd i <;> simp_all [Kd.isPure]
        unfold xOp at h
        simp only [hi, hki] at h
        obtain ⟨v, hy, hK⟩ := h
        refine aAb hj hnp (jS hj hji hsj hK) fun u M w1 w' _ h2 h3 => ?_
        unfold xOp
        simp only [hi, hki]
        exact ⟨v, hy.of_same ei wi, h2 w' h3⟩
      by_cases hfi : (kd i).isFcall = true
      · have hki : kd i = .fcall := by cases h' : kd i <;> simp_all [Kd.isFcall]
        unfold xOp at h
        simp only [hi, hki] at h
        obtain ⟨v, hy, hK⟩ := h
        refine aAb hj hnp (jS hj hji hsj (hK w (fD.refl w))) fun u M w1 w' _ h2 h3 => ?_
        unfold xOp
        simp only [hi, hki]
        exact ⟨v, hy.of_same ei wi, fun w3 h4 => h2 w3 (h3.trans h4)⟩
      by_cases hmi : (kd i).isMk = true
      · have hmj : (kd j).isMk = true := by cases h' : kd i <;> cases h'' : kd j <;> simp_all [Kd.isPure, Kd.isFcall, Kd.isRead, Kd.isNew, Kd.isMk]
        obtain ⟨Bi, hki⟩ : ∃ B, kd i = .mk B := by cases h' : kd i <;> simp_all [Kd.isMk]
        obtain ⟨Bj, hkj⟩ : ∃ B, kd j = .mk B := by cases h' : kd j <;> simp_all [Kd.isMk]
        have hc : ∀ v u, (a.put oj.dst u).put oi.dst v = (a.put oi.dst v).put oj.dst u := fun v u => (Act.put_comm a v u i2).symm
        unfold xOp at h
        simp only [hi, hki] at h
        unfold xOp
        simp only [hj, hkj]
        rcases h with ⟨hi0, Ai, mi, ci, Ti, rfl, ri, Ki⟩ | ⟨hi0, Ki⟩
        · have hs1 := sees_alloc w (.cells ci.toArray Ti)
          have hx := Ki _ _ hs1 (hB i _ hki w hw) hM.new (Al.mk' w ci Ti).blk
          unfold xOp at hx
          simp only [hj, hkj, wj, ej] at hx
          rcases hx with ⟨hj0, Aj, mj, cj, Tj, _, rj, _⟩ | ⟨hj0, _⟩
          · refine .inl ⟨hj0, Ai, mj, cj, Tj, rfl, rj, fun b w'' q1 q2 q0 q3 => ?_⟩
            simp only [hi, hki, wi, ei]
            refine .inl ⟨hi0, _, mi, ci, Ti, rfl, ri, fun b' w3 q4 q5 q7 q6 => ?_⟩
            have hx := Ki b' w3 (q1.trans q4) q5 (fun h => q7 (.inr h)) q6
            unfold xOp at hx
            simp only [hj, hkj, wj, ej] at hx
            rcases hx with ⟨_, Aj', mj', cj', Tj', hA', rj', Kj⟩ | ⟨hj1, _⟩
            · have hw3 := hI _ _ hw (q1.trans q4)
              have e := (rj' w3 hw3).symm.trans (rj w3 hw3)
              injection e with e1 e2
              injection e1 with e1
              obtain rfl := Mk.inj e1
              obtain ⟨rfl, rfl⟩ := alloc_inj e2
              cases hA'
              rw [hc]
              have hk := Kj b w3 (fD.refl w3) q2 (fun h => h.elim (fun h => q7 (.inl h.symm)) q0) (q3.sees q4)
              have hE : (fun x => x = b ∨ x = b' ∨ Ai x) = (fun x => x = b' ∨ x = b ∨ Ai x) := funext fun x => propext ⟨fun h => h.elim (fun h => .inr (.inl h)) fun h => h.elim .inl fun h => .inr (.inr h), fun h => h.elim (fun h => .inr (.inl h)) fun h => h.elim .inl fun h => .inr (.inr h)⟩
              rw [hE] at hk
              exact hk
            · rw [hj0] at hj1; cases hj1
          · refine .inr ⟨hj0, fun w'' q1 => ?_⟩
            simp only [hi, hki, wi, ei]
            refine .inl ⟨hi0, Ai, mi, ci, Ti, rfl, ri, fun b' w3 q4 q5 q7 q6 => ?_⟩
            have hx := Ki b' w3 (q1.trans q4) q5 q7 q6
            unfold xOp at hx
            simp only [hj, hkj, wj, ej] at hx
            rcases hx with ⟨hj1, _⟩ | ⟨_, Kj⟩
            · rw [hj0] at hj1; cases hj1
            · rw [hc]; exact Kj w3 (fD.refl w3)
        · have hx := Ki w (fD.refl w)
          unfold xOp at hx
          simp only [hj, hkj, wj, ej] at hx
          rcases hx with ⟨hj0, Aj, mj, cj, Tj, rfl, rj, Kj⟩ | ⟨hj0, Kj⟩
          · refine .inl ⟨hj0, Aj, mj, cj, Tj, rfl, rj, fun b w'' q1 q2 q0 q3 => ?_⟩
            simp only [hi, hki, wi, ei]
            exact .inr ⟨hi0, fun w3 q4 => by rw [hc]; exact Kj b w3 (q1.trans q4) q2 q0 (q3.sees q4)⟩
          · refine .inr ⟨hj0, fun w'' q1 => ?_⟩
            simp only [hi, hki, wi, ei]
            exact .inr ⟨hi0, fun w3 q4 => by rw [hc]; exact Kj w3 (q1.trans q4)⟩
      have hki : kd i = .read := by cases h' : kd i <;> simp_all [Kd.isPure, Kd.isFcall, Kd.isRead, Kd.isNew, Kd.isMk]
      have hkj : kd j = .fcall ∨ kd j = .read ∨ kd j = .new ∨ (kd j).isMk = true := by cases h' : kd j <;> simp_all [Kd.isPure, Kd.isFcall, Kd.isRead, Kd.isNew, Kd.isMk]
      unfold xOp at h
      simp only [hi, hki] at h
      obtain ⟨v, hy, hK⟩ := h
      refine aAb hj hnp (jS hj hji hsj (hK w (fD.refl w))) fun u M w1 w' q h2 h3 => ?_
      unfold xOp
      simp only [hi, hki]
      exact ⟨v, (hy.sees ((q hkj).trans h3)).of_same ei wi, fun w3 h4 => h2 w3 (h3.trans h4)⟩

theorem uH (hB: ∀i B,kd i= .mk B→ ∀w,I w→B≤w.heap.size)(hs: ∀(k:Nat) (o:Oper) cs b,ops[k]? =some o→o.op≠ .select cs b)(hI: ∀w w',I w→fD w w'→I w')(i:Nat)(post:List Nat): ∀(pre:List Nat) (M:Mm) (a:Act) (w:World),I w→kQ M w→(∀p ∈ pre,rD ops kd p i=true)→
    aA P I ops kd Q (pre++i :: post) M a w→aA P I ops kd Q (i :: (pre++post)) M a w
  | [],_,_,_,_,_,_,h=>h
  | p :: pre,M,a,w,hw,hM,hm,h=>by
    have h1:xOp P I ops kd p (fun M a w=>I w∧kQ M w∧aA P I ops kd Q (pre++i :: post) M a w) M a w:=xOp_inv hI hw hM h
    have h2:xOp P I ops kd p (aA P I ops kd Q (i :: (pre++post))) M a w:=qL (fun M a w h=>uH hB hs hI i post pre M a w h.1 h.2.1 (fun q hq=>hm q (List.mem_cons_of_mem _ hq)) h.2.2) h1
    exact xSwap hB (hm p List.mem_cons_self) hs hI hw hM h2

def waits (md:Region.Mode)(ops:Array Oper)(q p:Nat):Bool:=((ops[q]?).map fun o=>o.after.toList.any fun e=>Region.binds md e && e.on==p).getD false
def pG (md:Region.Mode)(ops:Array Oper):Nat→Nat→Nat→Bool
  | 0,q,p=>waits md ops q p
  | n+1,q,p=>waits md ops q p || (List.range ops.size).any fun m=>waits md ops q m && pG md ops n m p
def Dn (md:Region.Mode)(ops:Array Oper)(listed:Array Bool):Prop:= ∀q p,listed.getD q false=true→waits md ops q p=true→listed.getD p true=true
theorem Dn.trans {md : Region.Mode} {ops : Array Oper} {listed : Array Bool} (hsz : listed.size = ops.size) (h : Dn md ops listed) : ∀ (n q p : Nat), listed.getD q false = true → pG md ops n q p = true → listed.getD p true = true
  | 0, q, p, hq, hw => h q p hq hw
  | n + 1, q, p, hq, hw => by
    simp only [pG, Bool.or_eq_true, List.any_eq_true, Bool.and_eq_true, List.mem_range] at hw
    rcases hw with hw | ⟨m, hm, h1, h2⟩
    · exact h q p hq hw
    · have h3 := h q m hq h1
      refine Dn.trans hsz h n m p ?_ h2
      rw [Array.getD_eq_getD_getElem?, Array.getElem?_eq_getElem (by rw [hsz]; exact hm)] at h3 ⊢
      simpa using h3
def pairB (md:Region.Mode)(ops:Array Oper)(kd:Nat→Kd):List Nat→Bool
  | []=>true
  | p :: l=>(l.all fun q=> !waits md ops p q && (pG md ops 5 q p || rD ops kd p q)) && pairB md ops kd l
def edgesB (md:Region.Mode)(ops:Array Oper):Bool:=
  (List.range ops.size).all fun i=>((ops[i]?).map fun o=>o.after.all fun e=> !Region.binds md e || (decide (e.on<ops.size) && e.on !=i)).getD true

theorem jP {md : Region.Mode} (i : Nat) (post : List Nat) : ∀ (pre : List Nat), pairB md ops kd (pre ++ i :: post) = true →
    pairB md ops kd (pre ++ post) = true ∧ ∀ p ∈ pre, pG md ops 5 i p = true ∨ rD ops kd p i = true
  | [], h => by
    simp only [List.nil_append, pairB, Bool.and_eq_true] at h
    exact ⟨h.2, by simp⟩
  | p :: pre, h => by
    simp only [List.cons_append, pairB, Bool.and_eq_true] at h
    obtain ⟨h1, h2⟩ := h
    obtain ⟨h3, h4⟩ := jP i post pre h2
    rw [List.all_eq_true] at h1
    refine ⟨?_, ?_⟩
    · simp only [List.cons_append, pairB, Bool.and_eq_true]
      refine ⟨List.all_eq_true.2 fun q hq => h1 q ?_, h3⟩
      rcases List.mem_append.1 hq with h | h
      · exact List.mem_append_left _ h
      · exact List.mem_append_right _ (List.mem_cons_of_mem _ h)
    · intro q hq
      rcases List.mem_cons.1 hq with rfl | hq
      · have := h1 i (List.mem_append_right _ List.mem_cons_self)
        simp only [Bool.and_eq_true, Bool.or_eq_true] at this
        exact this.2
      · exact h4 q hq

theorem jH {md : Region.Mode} {Qx : Exit → Act → World → Prop} (hB : ∀ i B, kd i = .mk B → ∀ w, I w → B ≤ w.heap.size) (hs : ∀ (k : Nat) (o : Oper) cs b, ops[k]? = some o → o.op ≠ .select cs b) (hI : ∀ w w', I w → fD w w' → I w') (hed : edgesB md ops = true) (hQ : ∀ M a w, Q M a w → Qx .normal a w) :
    ∀ (fuel : Nat) (listed : Array Bool) (l : List Nat) (M : Mm) (a : Act) (w : World), listed.size = ops.size → l.Nodup → (∀ i, i ∈ l ↔ i < ops.size ∧ listed.getD i true = false) → pairB md ops kd l = true → l.length ≤ fuel → I w → kQ M w → Dn md ops listed →
      aA P I ops kd Q l M a w → wpAny P md ops Qx fuel listed a w := by
  have hin : ∀ {listed : Array Bool} {i : Nat}, listed.size = ops.size → i ∈ Region.ready md ops listed → i < ops.size ∧ listed.getD i true = false := by
    intro listed i hsz hi
    obtain ⟨h0, o, ho, _⟩ := mem_ready.1 hi
    exact ⟨(Array.getElem?_eq_some_iff.1 ho).1, h0⟩
  intro fuel
  induction fuel with
  | zero =>
    intro listed l M a w hsz _ hl _ hlen _ _ _ h
    have : l = [] := List.eq_nil_of_length_eq_zero (by omega)
    subst this
    refine ⟨?_, hQ _ _ _ h⟩
    apply List.eq_nil_iff_forall_not_mem.2
    intro i hi
    have := (hl i).2 (hin hsz hi)
    simp at this
  | succ fuel ih =>
    intro listed l M a w hsz hnd hl hp hlen hwI hM hdn h
    refine ⟨fun hr => ?_, fun i hi => ?_⟩
    · cases l with
      | nil => exact hQ _ _ _ h
      | cons p l =>
        exfalso
        have hmem := (hl p).1 List.mem_cons_self
        have : p ∈ Region.ready md ops listed := by
          refine mem_ready.2 ⟨hmem.2, ops[p], Array.getElem?_eq_getElem hmem.1, fun e he hb => ?_⟩
          have hone := (List.all_eq_true.1 hed) p (List.mem_range.2 hmem.1)
          rw [Array.getElem?_eq_getElem hmem.1] at hone
          simp only [Option.map_some, Option.getD_some] at hone
          have hone := Array.all_eq_true_iff_forall_mem.1 hone e he
          rw [hb] at hone
          simp only [Bool.not_true, Bool.false_or, Bool.and_eq_true, decide_eq_true_eq, bne_iff_ne, ne_eq] at hone
          obtain ⟨h1, h2⟩ := hone
          have hlt : e.on < listed.size := by rw [hsz]; exact h1
          cases hc : listed.getD e.on true with
          | true =>
            rw [Array.getD_eq_getD_getElem?, Array.getElem?_eq_getElem hlt] at hc ⊢
            simpa using hc
          | false =>
            exfalso
            have hm := (hl e.on).2 ⟨h1, hc⟩
            rcases List.mem_cons.1 hm with hm | hm
            · exact h2 hm
            · simp only [pairB, Bool.and_eq_true] at hp
              have := List.all_eq_true.1 hp.1 e.on hm
              simp only [Bool.and_eq_true, Bool.not_eq_true'] at this
              have hw : waits md ops p e.on = true := by
                unfold waits
                rw [Array.getElem?_eq_getElem hmem.1]
                simp only [Option.map_some, Option.getD_some]
                exact List.any_eq_true.2 ⟨e, Array.mem_toList_iff.2 he, by simp [hb]⟩
              rw [hw] at this
              exact Bool.noConfusion this.1
        rw [hr] at this
        cases this
    · have hmem := (hl i).2 (hin hsz hi)
      obtain ⟨pre, post, rfl⟩ := List.append_of_mem hmem
      obtain ⟨hp1, hp2⟩ := jP i post pre hp
      have hmay : ∀ p ∈ pre, rD ops kd p i = true := by
        intro p hpm
        rcases hp2 p hpm with hw | hm
        · exfalso
          have hp0 := ((hl p).1 (List.mem_append_left _ hpm))
          have dir : ∀ m, waits md ops i m = true → listed.getD m true = true := by
            intro m hwm
            obtain ⟨_, o, ho, hall⟩ := mem_ready.1 hi
            unfold waits at hwm
            rw [ho] at hwm
            simp only [Option.map_some, Option.getD_some] at hwm
            obtain ⟨e, he, hb⟩ := List.any_eq_true.1 hwm
            replace he := Array.mem_toList_iff.1 he
            simp only [Bool.and_eq_true, beq_iff_eq] at hb
            have h1 := hall e he hb.1
            rw [hb.2] at h1
            by_cases hml : m < listed.size
            · rw [Array.getD_eq_getD_getElem?, Array.getElem?_eq_getElem hml] at h1 ⊢
              simpa using h1
            · rw [Array.getD_eq_getD_getElem?, Array.getElem?_eq_none (by omega)]; rfl
          have : listed.getD p true = true := by
            simp only [pG, Bool.or_eq_true, List.any_eq_true, Bool.and_eq_true, List.mem_range] at hw
            rcases hw with hw | ⟨m, hm, h1, h2⟩
            · exact dir p hw
            · have h3 := dir m h1
              have h4 : listed.getD m false = true := by
                rw [Array.getD_eq_getD_getElem?, Array.getElem?_eq_getElem (by rw [hsz]; exact hm)] at h3 ⊢
                simpa using h3
              refine Dn.trans hsz hdn 4 m p h4 ?_
              simp only [pG, Bool.or_eq_true, List.any_eq_true, Bool.and_eq_true, List.mem_range]
              exact h2
          rw [hp0.2] at this; cases this
        · exact hm
      have hx := uH hB hs hI i post pre M a w hwI hM hmay h
      have hx := aDf (Qx := Qx) hB hI hwI hM hx
      refine wpOp_mono (fun a w ⟨M, h⟩ => ?_) hx
      have hnd' : (pre ++ post).Nodup ∧ i ∉ pre ++ post := by
        have := hnd
        rw [List.nodup_append] at this
        obtain ⟨n1, n2, n3⟩ := this
        rw [List.nodup_cons] at n2
        refine ⟨List.nodup_append.2 ⟨n1, n2.2, fun a ha b hb => n3 a ha b (List.mem_cons_of_mem _ hb)⟩, fun hm => ?_⟩
        rcases List.mem_append.1 hm with hm | hm
        · exact n3 i hm i List.mem_cons_self rfl
        · exact n2.1 hm
      refine ih _ (pre ++ post) M a w (by simpa using hsz) hnd'.1 (fun k => ?_) hp1 (by simp at hlen ⊢; omega) h.1 h.2.1 ?_ h.2.2
      rotate_left
      · intro q p hq hwq
        by_cases hqi : q = i
        · subst hqi
          obtain ⟨_, o, ho, hall⟩ := mem_ready.1 hi
          unfold waits at hwq
          rw [ho] at hwq
          simp only [Option.map_some, Option.getD_some] at hwq
          obtain ⟨e, he, hb⟩ := List.any_eq_true.1 hwq
          replace he := Array.mem_toList_iff.1 he
          simp only [Bool.and_eq_true, beq_iff_eq] at hb
          have h1 := hall e he hb.1
          rw [hb.2] at h1
          by_cases hpi : p = q
          · subst hpi
            have hlt : p < listed.size := by rw [hsz]; exact (hin hsz hi).1
            simp [Array.getD_eq_getD_getElem?, hlt]
          · rw [getD_set_ne true (Ne.symm hpi)]
            by_cases hml : p < listed.size
            · rw [Array.getD_eq_getD_getElem?, Array.getElem?_eq_getElem hml] at h1 ⊢
              simpa using h1
            · rw [Array.getD_eq_getD_getElem?, Array.getElem?_eq_none (by omega)]; rfl
        · rw [getD_set_ne false (Ne.symm hqi)] at hq
          have h1 := hdn q p hq hwq
          by_cases hpi : p = i
          · subst hpi
            have hlt : p < listed.size := by rw [hsz]; exact (hin hsz hi).1
            simp [Array.getD_eq_getD_getElem?, hlt]
          · rw [getD_set_ne true (Ne.symm hpi)]; exact h1
      by_cases hk : k = i
      · subst hk
        have hlt : k < listed.size := by rw [hsz]; exact (hin hsz hi).1
        constructor
        · intro hm; exact absurd hm hnd'.2
        · rintro ⟨_, h2⟩; simp [Array.getD_eq_getD_getElem?, hlt] at h2
      · rw [getD_set_ne true (Ne.symm hk), ← hl k]
        simp [hk]

theorem pW {id N:Nat}{l:List Oper}{Qx:Exit→Env→World→Prop}{a:Act}{w:World}{σ:List Nat}(hB: ∀i B,kd i= .mk B→ ∀w,I w→B≤w.heap.size)(hm:P.follows .mixedOrders=true)(hs:Region.noSelect l.toArray=true)(hed:edgesB .any l.toArray=true)(hp:pairB .any l.toArray kd σ=true)
    (hperm:σ.Perm (List.range l.length))(hI: ∀w w',I w→fD w w'→I w')(hw:I w)(h: ∀w',fD w w'→aA P I l.toArray kd (fun _ a w=> ∃ρ',Fits N a ρ'∧Qx .normal ρ' w) σ (some fun _=>False) a w'):(Code.region id l.toArray true).wp P (mZ N Qx) a w:=by
  refine wp_region_any hm (jH hB (Region.noSelect_spec hs) hI hed (fun _ _ _ h=>h) _ _ σ (some fun _=>False) a _ (by simp) (hperm.nodup_iff.2 List.nodup_range) (fun i=>?_) hp (by rw [hperm.length_eq]; simp) (hI _ _ hw ((Below.refl _ _).drew)) (fun A e x hx=>by cases e; exact hx.elim) (fun q p hq _=>by simp [Array.getD_eq_getD_getElem?,Array.getElem?_replicate] at hq; split at hq<;>simp at hq) (h _ ((Below.refl _ _).drew)))
  rw [hperm.mem_iff,List.mem_range]
  constructor
  · intro hi; exact ⟨by simpa using hi,by simp [Array.getD_eq_getD_getElem?,hi]⟩
  · exact fun h=>by simpa using h.1
end
end Go.MxM
namespace Go.MxM
open Go.OB
open Go.RowKit

def kdOf (κ:List Kd)(i:Nat):Kd:=κ.getD i .pure

def XL (P:Program)(I:World→Prop)(N:Nat)(ops:Array Oper)(κ:List Kd)(K:Mm→Env→World→Prop)(M:Mm)(σ:List Nat)(l:List Oper)(ρ:Env)(w:World):Prop:=
  (l.map some=σ.map fun i=>ops[i]?)→ ∀w',fD w w'→I w'→ ∀a,Fits N a ρ→aA P I ops (kdOf κ) (fun M a w=> ∃ρ',Fits N a ρ'∧K M ρ' w) σ M a w'

section
variable {P:Program} {I:World→Prop} {N:Nat} {ops:Array Oper} {κ:List Kd} {K:Mm→Env→World→Prop} {Q:Exit→Env→World→Prop} {k:Nat} {M:Mm} {σ:List Nat} {rest:List Oper} {ρ:Env} {w:World} {v:Value} {d:Nat} {op:Op} {ty:TypeId} {pos:String} {af:Array Edge} {g:Option (Nat×Bool)}
def sel (l:List Oper):List Nat→List Oper
  | []=>[]
  | i :: σ=>match l[i]? with
    | some o=>o :: sel l σ
    | none=>[]
theorem sel_ok (l:List Oper): ∀(σ:List Nat),(∀i ∈ σ,i<l.length)→(sel l σ).map some=σ.map fun i=>l.toArray[i]?
  | [],_=>rfl
  | i :: σ,h=>by
    have hi:=h i List.mem_cons_self
    have ih:=sel_ok l σ (fun j hj=>h j (List.mem_cons_of_mem _ hj))
    unfold sel
    rw [List.getElem?_eq_getElem hi]
    simp only [List.map_cons,ih]
    simp [hi]
theorem WP_mix {id:Nat}{l:List Oper}(σ:List Nat)(κ:List Kd)(hB: ∀i B,kdOf κ i= .mk B→ ∀w,I w→B≤w.heap.size)(hm:P.follows .mixedOrders=true)(hs:Region.noSelect l.toArray=true)(hed:edgesB .any l.toArray=true)(hp:pairB .any l.toArray (kdOf κ) σ=true)
    (hσ:σ.isPerm (List.range l.length)=true)(hI: ∀w w',I w→fD w w'→I w')(hw:I w)(h:XL P I N l.toArray κ (fun _ ρ w=>Q .normal ρ w) (some fun _=>False) σ (sel l σ) ρ w):WP P N (.region id l.toArray true) Q ρ w:=by
  have hσ:σ.Perm (List.range l.length):=List.isPerm_iff.1 hσ
  intro a ha
  refine pW (I:=I) (σ:=σ) hB hm hs hed hp hσ hI hw (fun w' hw'=>?_)
  exact h (sel_ok l σ fun i hi=>List.mem_range.1 (hσ.mem_iff.1 hi)) w' hw' (hI _ _ hw hw') a ha
theorem WP_mix0 {id:Nat}{l:List Oper}(σ:List Nat)(κ:List Kd)(hB: ∀i B,kdOf κ i= .mk B→ ∀w,I w→B≤w.heap.size)(hm:P.follows .mixedOrders=true)(hs:Region.noSelect l.toArray=true)(hed:edgesB .any l.toArray=true)(hp:pairB .any l.toArray (kdOf κ) σ=true)
    (hσ:σ=List.range l.length)(hI: ∀w w',I w→fD w w'→I w')(hw:I w)(h:XL P I N l.toArray κ (fun _ ρ w=>Q .normal ρ w) (some fun _=>False) σ l ρ w):WP P N (.region id l.toArray true) Q ρ w:=by
  intro a ha
  refine pW (I:=I) (σ:=σ) hB hm hs hed hp (by rw [hσ]) hI hw (fun w' hw'=>?_)
  refine h ?_ w' hw' (hI _ _ hw hw') a ha
  rw [hσ]
  apply List.ext_getElem
  · simp
  · intro i h1 h2; simp

theorem XL_nil (h: ∀w',fD w w'→K M ρ w'):XL P I N ops κ K M σ [] ρ w:=by
  intro hl w' hw' _ _ ha
  have:σ= []:=by
    have:=congrArg List.length hl
    simp at this
    exact List.eq_nil_of_length_eq_zero this.symm
  subst this
  exact ⟨ρ,ha,h w' hw'⟩
theorem XL.head {o:Oper}(hl:(o :: rest).map some=(k :: σ).map fun i=>ops[i]?):ops[k]? =some o:=by
  simp only [List.map_cons,List.cons.injEq] at hl; exact hl.1.symm
theorem XL.tail {o:Oper}(hl:(o :: rest).map some=(k :: σ).map fun i=>ops[i]?):rest.map some=σ.map fun i=>ops[i]? :=by
  simp only [List.map_cons,List.cons.injEq] at hl; exact hl.2

theorem XL_pure (hk:kdOf κ k= .pure)(hw:fP N ops ρ ⟨some d,op,ty,pos,af,g⟩=true)(hd:Nat.blt d N=true)(h: ∀w',I w'→Do P ⟨some d,op,ty,pos,af,g⟩ ρ w' v w')(n:XL P I N ops κ K M σ rest (upd ρ d v) w):
    XL P I N ops κ K M (k :: σ) (⟨some d,op,ty,pos,af,g⟩ :: rest) ρ w:=by
  intro hl w' hw' hI a ha
  simp only [aA]
  unfold xOp
  simp only [XL.head hl,hk]
  exact ⟨v,.inl ⟨by rw [ha.wanted]; exact hw,fun w2 h2=>by rw [ha.eval]; exact h w2 h2⟩,n (XL.tail hl) w' hw' hI _ (ha.put (xX hd) v)⟩
theorem XL_offp (hk:kdOf κ k= .pure)(hw:fP N ops ρ ⟨some d,op,ty,pos,af,g⟩=false)(hd:Nat.blt d N=true)(n:XL P I N ops κ K M σ rest (upd ρ d undef) w):
    XL P I N ops κ K M (k :: σ) (⟨some d,op,ty,pos,af,g⟩ :: rest) ρ w:=by
  intro hl w' hw' hI a ha
  simp only [aA]
  unfold xOp
  simp only [XL.head hl,hk]
  exact ⟨undef,.inr ⟨by rw [ha.wanted]; exact hw,rfl⟩,n (XL.tail hl) w' hw' hI _ (ha.put (xX hd) _)⟩
theorem XL_offf (hc: ∀w w',I w→fD w w'→I w')(hk:kdOf κ k= .fcall)(hw:fP N ops ρ ⟨some d,op,ty,pos,af,g⟩=false)(hd:Nat.blt d N=true)(n:XL P I N ops κ K M σ rest (upd ρ d undef) w):
    XL P I N ops κ K M (k :: σ) (⟨some d,op,ty,pos,af,g⟩ :: rest) ρ w:=by
  intro hl w' hw' hI a ha
  simp only [aA]
  unfold xOp
  simp only [XL.head hl,hk]
  exact ⟨undef,.inr ⟨by rw [ha.wanted]; exact hw,rfl⟩,fun w2 h2=>n (XL.tail hl) w2 (hw'.trans h2) (hc _ _ hI h2) _ (ha.put (xX hd) _)⟩
theorem XL_offr (hc: ∀w w',I w→fD w w'→I w')(hk:kdOf κ k= .read)(hw:fP N ops ρ ⟨some d,op,ty,pos,af,g⟩=false)(hd:Nat.blt d N=true)(n:XL P I N ops κ K M σ rest (upd ρ d undef) w):
    XL P I N ops κ K M (k :: σ) (⟨some d,op,ty,pos,af,g⟩ :: rest) ρ w:=by
  intro hl w' hw' hI a ha
  simp only [aA]
  unfold xOp
  simp only [XL.head hl,hk]
  exact ⟨undef,.inr ⟨by rw [ha.wanted]; exact hw,rfl⟩,fun w2 h2=>n (XL.tail hl) w2 (hw'.trans h2) (hc _ _ hI h2) _ (ha.put (xX hd) _)⟩
theorem xP (hc: ∀w w',I w→fD w w'→I w')(hk:kdOf κ k= .read)(hw:fP N ops ρ ⟨some d,op,ty,pos,af,g⟩=true)(hd:Nat.blt d N=true)(h: ∀w',fD w w'→Do P ⟨some d,op,ty,pos,af,g⟩ ρ w' v w')(n:XL P I N ops κ K M σ rest (upd ρ d v) w):
    XL P I N ops κ K M (k :: σ) (⟨some d,op,ty,pos,af,g⟩ :: rest) ρ w:=by
  intro hl w' hw' hI a ha
  simp only [aA]
  unfold xOp
  simp only [XL.head hl,hk]
  refine ⟨v,.inl ⟨by rw [ha.wanted]; exact hw,fun w2 h2=>?_⟩,fun w2 h2=>n (XL.tail hl) w2 (hw'.trans h2) (hc _ _ hI h2) _ (ha.put (xX hd) v)⟩
  rw [ha.eval,show (execOp (ev ρ) _).run P w2=_ from h w2 (hw'.trans h2)]
  exact ⟨rfl,rfl⟩
theorem XL_call {f:FuncId}{args:Array Value}(hC: ∀w w',I w→fD w w'→I w')(hk:kdOf κ k= .read)(hw:fP N ops ρ ⟨some d,op,ty,pos,af,g⟩=true)(hd:Nat.blt d N=true)(h: ∀w',fD w w'→DoC P ⟨some d,op,ty,pos,af,g⟩ ρ w' f args)
    (hc: ∀w',fD w w'→Calls P f args w' fun e w''=>e= .returned v∧Below w'.heap.size w' w'')(n:XL P I N ops κ K M σ rest (upd ρ d v) w):
    XL P I N ops κ K M (k :: σ) (⟨some d,op,ty,pos,af,g⟩ :: rest) ρ w:=by
  intro hl w' hw' hI a ha
  simp only [aA]
  unfold xOp
  simp only [XL.head hl,hk]
  refine ⟨v,.inl ⟨by rw [ha.wanted]; exact hw,fun w2 h2=>?_⟩,fun w2 h2=>n (XL.tail hl) w2 (hw'.trans h2) (hC _ _ hI h2) _ (ha.put (xX hd) v)⟩
  rw [ha.eval,show (execOp (ev ρ) _).run P w2=_ from h w2 (hw'.trans h2)]
  exact ⟨rfl,(hc w2 (hw'.trans h2)).mono fun e w3 ⟨he,hb⟩=>⟨he,hb⟩⟩
theorem XL_fcall {f:FuncId}{args:Array Value}(hC: ∀w w',I w→fD w w'→I w')(hk:kdOf κ k= .fcall)(hw:fP N ops ρ ⟨some d,op,ty,pos,af,g⟩=true)(hd:Nat.blt d N=true)(h: ∀w',I w'→DoC P ⟨some d,op,ty,pos,af,g⟩ ρ w' f args)
    (hc: ∀w',I w'→Calls P f args w' fun e w''=>e= .returned v∧Below w'.heap.size w' w'')(n:XL P I N ops κ K M σ rest (upd ρ d v) w):
    XL P I N ops κ K M (k :: σ) (⟨some d,op,ty,pos,af,g⟩ :: rest) ρ w:=by
  intro hl w' hw' hI a ha
  simp only [aA]
  unfold xOp
  simp only [XL.head hl,hk]
  refine ⟨v,.inl ⟨by rw [ha.wanted]; exact hw,fun w2 h2=>?_⟩,fun w2 h2=>n (XL.tail hl) w2 (hw'.trans h2) (hC _ _ hI h2) _ (ha.put (xX hd) v)⟩
  rw [ha.eval,show (execOp (ev ρ) _).run P w2=_ from h w2 h2]
  exact ⟨rfl,(hc w2 h2).mono fun e w3 ⟨he,hb⟩=>⟨he,hb⟩⟩
theorem XL_splitb {b:Bool}{x:Operand}(hk:kdOf κ k= .pure)(hw:fP N ops ρ ⟨some d,.move x,ty,pos,af,g⟩=true)(hd:Nat.blt d N=true)(hx:ev ρ x= .bool b)
    (ht:b=true→XL P I N ops κ K M σ rest (upd ρ d (.bool true)) w)(hf:b=false→XL P I N ops κ K M σ rest (upd ρ d (.bool false)) w):XL P I N ops κ K M (k :: σ) (⟨some d,.move x,ty,pos,af,g⟩ :: rest) ρ w:=by
  refine XL_pure (v:= .bool b) hk hw hd (fun w' _=>by unfold Do; simp [execOp,hx]) ?_
  cases b
  · exact hf rfl
  · exact ht rfl
theorem XL_exN {R:World→Value→World→Prop}(hC: ∀w w',I w→fD w w'→I w')(hk:kdOf κ k= .new)(hw:fP N ops ρ ⟨some d,op,ty,pos,af,g⟩=true)(hd:Nat.blt d N=true)
    (h: ∀w1,fD w w1→ ∃v w',Do P ⟨some d,op,ty,pos,af,g⟩ ρ w1 v w'∧fD w1 w'∧R w1 v w')(n: ∀w1 v w',fD w w1→R w1 v w'→XL P I N ops κ K M σ rest (upd ρ d v) w'):XL P I N ops κ K M (k :: σ) (⟨some d,op,ty,pos,af,g⟩ :: rest) ρ w:=by
  intro hl w' hw' hI a ha
  obtain ⟨v,w'',h1,h3,h2⟩:=h w' hw'
  simp only [aA]
  unfold xOp
  simp only [XL.head hl,hk]
  exact .inl ⟨by rw [ha.wanted]; exact hw,.inl ⟨v,w'',by rw [ha.eval]; exact h1,h3,fun w3 hw3=>n _ _ _ hw' h2 (XL.tail hl) w3 hw3 (hC _ _ (hC _ _ hI h3) hw3) _ (ha.put (xX hd) v)⟩⟩
theorem XL_ex {R:World→Value→World→Prop}(hC: ∀w w',I w→fD w w'→I w')(hk:kdOf κ k= .eff)(hw:fP N ops ρ ⟨some d,op,ty,pos,af,g⟩=true)(hd:Nat.blt d N=true)(h: ∀w1,fD w w1→ ∃v w',Do P ⟨some d,op,ty,pos,af,g⟩ ρ w1 v w'∧R w1 v w')
    (n: ∀w1 v w',fD w w1→R w1 v w'→I w'∧XL P I N ops κ K none σ rest (upd ρ d v) w'):XL P I N ops κ K M (k :: σ) (⟨some d,op,ty,pos,af,g⟩ :: rest) ρ w:=by
  intro hl w' hw' hI a ha
  obtain ⟨v,w'',h1,h2⟩:=h w' hw'
  simp only [aA]
  unfold xOp
  simp only [XL.head hl,hk]
  have h3:=n _ _ _ hw' h2
  exact .inl ⟨by rw [ha.wanted]; exact hw,.inl ⟨v,w'',by rw [ha.eval]; exact h1,h3.1,none,kQ.no,fun w3 hw3=>h3.2 (XL.tail hl) w3 hw3 (hC _ _ h3.1 hw3) _ (ha.put (xX hd) v)⟩⟩
theorem XL_exU {R:World→World→Prop}(hC: ∀w w',I w→fD w w'→I w')(hk:kdOf κ k= .eff)(hw:fP N ops ρ ⟨none,op,ty,pos,af,g⟩=true)(h: ∀w1,fD w w1→ ∃w',DoU P ⟨none,op,ty,pos,af,g⟩ ρ w1 w'∧R w1 w')
    (n: ∀w1 w',fD w w1→R w1 w'→I w'∧XL P I N ops κ K none σ rest ρ w'):XL P I N ops κ K M (k :: σ) (⟨none,op,ty,pos,af,g⟩ :: rest) ρ w:=by
  intro hl w' hw' hI a ha
  obtain ⟨w'',h1,h2⟩:=h w' hw'
  simp only [aA]
  unfold xOp
  simp only [XL.head hl,hk]
  have h3:=n _ _ hw' h2
  exact .inl ⟨by rw [ha.wanted]; exact hw,.inr (.inl ⟨w'',by rw [ha.eval]; exact h1,h3.1,none,kQ.no,fun w3 hw3=>h3.2 (XL.tail hl) w3 hw3 (hC _ _ h3.1 hw3) _ ha⟩)⟩
theorem XL_exP {R:Value→Prop}(hk:kdOf κ k= .pure)(hw:fP N ops ρ ⟨some d,op,ty,pos,af,g⟩=true)(hd:Nat.blt d N=true)(h: ∃v,(∀w',Do P ⟨some d,op,ty,pos,af,g⟩ ρ w' v w')∧R v)(n: ∀v,R v→XL P I N ops κ K M σ rest (upd ρ d v) w):
    XL P I N ops κ K M (k :: σ) (⟨some d,op,ty,pos,af,g⟩ :: rest) ρ w:=by
  obtain ⟨v,h1,h2⟩:=h
  exact XL_pure hk hw hd (fun w' _=>h1 w') (n v h2)
theorem XL_mk {A:Nat→Prop}{B:Nat}{m:Mk}{cs:List Value}{T:TypeId}(hC: ∀w w',I w→fD w w'→I w')(hk:kdOf κ k= .mk B)(hw:fP N ops ρ ⟨some d,op,ty,pos,af,g⟩=true)(hd:Nat.blt d N=true)
    (h: ∀w',I w'→Do P ⟨some d,op,ty,pos,af,g⟩ ρ w' (m.val w'.heap.size) (w'.alloc (.cells cs.toArray T)))
    (n: ∀b w'',fD w w''→B≤b→ ¬A b→Blk w'' b cs T→XL P I N ops κ K (some fun x=>x=b∨A x) σ rest (upd ρ d (m.val b)) w''):XL P I N ops κ K (some A) (k :: σ) (⟨some d,op,ty,pos,af,g⟩ :: rest) ρ w:=by
  intro hl w' hw' hI a ha
  simp only [aA]
  unfold xOp
  simp only [XL.head hl,hk]
  refine .inl ⟨by rw [ha.wanted]; exact hw,A,m,cs,T,rfl,fun w2 h2=>by rw [ha.eval]; exact h w2 h2,fun b w3 q1 q2 q3 q4=>?_⟩
  exact n b w3 (hw'.trans q1) q2 q3 q4 (XL.tail hl) w3 (fD.refl _) (hC _ _ hI q1) _ (ha.put (xX hd) _)
end
end Go.MxM
