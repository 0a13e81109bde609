/- Walks: what each function computes, for every argument; no condition but those that stand in the statements. -/
import Derived.Test.YtckmiljbaejijaaGreatDoorEVa
namespace Go.Lf
open Go.OB
theorem app_nil {α:Type}{n:Nat}{l:List α}(hn:n≤64)(h:l.length≤1000000):app' n ([]:List α) l=some l:=by
  unfold app'
  have:(0+l.length) * n≤1000000 * 64:=Nat.mul_le_mul (by omega) hn
  rw [if_pos ⟨by rw [maxLen_eq]; simp; omega,by simp only [List.length_nil]; omega⟩,List.nil_append]
theorem cloneT_eq (l:List eH)(h:l.length≤1000000):Fbr l=some l:=by
  unfold Fbr
  rw [app_nil (by decide) h]
  cases l<;>rfl
theorem cloneI_eq (l:List Int)(h:l.length≤1000000):Fbi l=some l:=by
  unfold Fbi
  rw [app_nil (by decide) h]
  cases l<;>rfl
theorem cloneB_eq (l:List Bool)(h:l.length≤1000000):Fc2 l=some l:=by
  unfold Fc2
  rw [app_nil (by decide) h]
  cases l<;>rfl
theorem groupC_ok {rf : Nd → Option Nd} {ks : List Nd} {any : Bool} (hl : ks.length ≤ 1000000) (h : ∀ k ∈ ks, rf k = some k) : Fbk rf (dA.mk ks any) = some (.group ks any) := by
  have q : Fc6 rf (dA.mk ks any) (ks.length : Int) (0, []) = some ks := by
    unfold Fc6
    refine aX (fun (i : Nat) => ((i : Int), ks.take i)) ks (some ks) (by omega) ?_ ?_
    · intro kk i x hx hi
      have hm := List.mem_of_getElem? hx
      simp only [yD]
      rw [wG hi, yZ, dL hx, zW, h x hm, zW, ap16 (by simp; omega), zW, dG hi (by omega), tk_snoc hx]
    · intro kk
      simp only [yD]
      rw [wF, xC, List.take_length]
  unfold Fbk
  simp only [yD]
  rw [q, zW]
theorem copied_B {T P R n:Nat}{rf:Nd→Option Nd}(hk: ∀k,dpN k<n→wfN T P R k→rf k=some k)(k:Nd)(h:dpN k<n+1)(hw:wfN T P R k):Fbv rf k=some k:=by
  cases k with
  | constant t=>rfl
  | number tr op k=>rfl
  | pair a b da db op=>rfl
  | steady tr k fr last=>
    obtain ⟨w1,w2,w3⟩:=hw
    show gG (gG (Fbr last) _) _=_
    rw [cloneT_eq _ (by omega)]; rfl
  | phase p=>rfl
  | rule r=>rfl
  | not k=>
    rw [dpN] at h
    show gG (gG (rf k) _) _=_
    rw [hk k (by omega) hw]; rfl
  | group ks any=>
    rw [dpN] at h
    obtain ⟨w1,w2⟩:=hw
    rw [show Fbv rf (.group ks any)=gG (Fbk rf (dA.mk ks any)) (fun x90=>some x90) by rw [Fbv],groupC_ok w2 (fun k hm=>hk k (by have:=dpL_mem hm; omega) (wfL_mem.1 w1 k hm)),zW]
  | count k c fr last tot=>
    rw [dpN] at h
    obtain ⟨w1,w2,w3,w4,w5,w6⟩:=hw
    show gG (gG (rf k) fun x27=>gG (Fbi last) _) _=_
    rw [hk k (by omega) w1,cloneI_eq _ (by omega)]; rfl
  | since a b l g=>
    rw [dpN] at h
    obtain ⟨w1,w2,w3⟩:=hw
    show gG (gG (rf a) fun x27=>gG (rf b) _) _=_
    rw [hk a (by omega) w1,hk b (by omega) w2]; rfl
  | rises k l g=>
    rw [dpN] at h
    show gG (gG (rf k) _) _=_
    rw [hk k (by omega) hw.1]; rfl
theorem copied_R {T P R:Nat}: ∀(n:Nat) (k:Nd),dpN k<n→wfN T P R k→Fb9 n k=some k
  | 0,_,h,_=>by omega
  | n+1,k,h,hw=>copied_B (fun k hd hw=>copied_R n k hd hw) k h hw
theorem copied_ok {T P R:Nat}{k:Nd}(hd:dpN k≤1000000)(hw:wfN T P R k):Fd0 k=some k:=
  copied_R FU k (by have:(1000000:Nat)<FU:=FU_big (by omega); omega) hw
theorem Copy_eq {w : gW} {T P : Nat} (h : WfW w T P) : Fbl w = some w := by
  have hb := h.pb
  have h1 := h.po
  have h2 := h.ph
  have hm := h.ml
  have hr := h.rl
  have q1 : Fdr w (w.moves.length : Int) (0, []) = some w.moves := by
    unfold Fdr
    refine aX (fun (i : Nat) => ((i : Int), w.moves.take i)) w.moves (some w.moves) (by omega) ?_ ?_
    · intro kk i x hx hi
      have q := h.mv x (List.mem_of_getElem? hx)
      simp only [yD]
      rw [wG hi, yZ, dL hx, zW, copied_ok q.2.2 q.2.1, zW]
      have a32 : app' 32 (w.moves.take i) [x] = some (w.moves.take i ++ [x]) := by
        unfold app'
        rw [if_pos ⟨by rw [maxLen_eq]; simp; omega, by simp; omega⟩]
      show gG (app' 32 (w.moves.take i) [x]) _ = _
      rw [a32, zW, dG hi (by omega), tk_snoc hx]
    · intro kk
      simp only [yD]
      rw [wF, xC, List.take_length]
  have q2 : Fd8 w (w.rules.length : Int) (0, []) = some w.rules := by
    unfold Fd8
    refine aX (fun (i : Nat) => ((i : Int), w.rules.take i)) w.rules (some w.rules) (by omega) ?_ ?_
    · intro kk i x hx hi
      have q := h.ru i x hx
      simp only [yD]
      rw [wG hi, yZ, dL hx, zW, copied_ok q.2 q.1, zW, ap16 (by simp; omega), zW, dG hi (by omega), tk_snoc hx]
    · intro kk
      simp only [yD]
      rw [wF, xC, List.take_length]
  unfold Fbl
  rw [cloneS_eq _ (by omega), cloneB_eq _ (by omega), zW, zW]
  simp only [yD]
  rw [q1, q2, zW, zW]
def tolE (t:eH):Int:=if t.Known=false∧t.N≠0 then 2 else if t.N< -1125899906842624∨1125899906842624<t.N then 9 else 0
theorem Next_eq {w : gW} {T P : Nat} (h : WfW w T P) (x : List eH) (hx : x.length ≤ 9223372036854775807) :
    Fac w x = if (x.length : Int) ≠ T then some ([], 2, w) else cO (fun _ t => if tolE t = 0 then none else some (some ([], tolE t, w))) (some ((nxt x w).1, 0, (nxt x w).2)) x 0 := by
  unfold Fac
  simp only [yD]
  rw [show decide ((x.length : Int) ≠ w.tracks) = decide ((x.length : Int) ≠ (T : Int)) by rw [h.tr]]
  by_cases c : (x.length : Int) ≠ T
  · rw [decide_eq_true c, yZ, if_pos c]
  · rw [decide_eq_false c, xC, if_neg c, dF]
    have ht : x.length = T := by omega
    unfold Ffn
    refine wK x _ _ hx ?_ ?_
    · intro k i t hti hi
      simp only [yD]
      rw [wG hi, yZ, dL hti, zW, dG hi hx, ewithin]
      simp only [zW]
      unfold tolE
      cases t.Known with
      | true =>
        simp only [Bool.not_true, xC, zW, Bool.true_eq_false, false_and, if_false]
        by_cases d : t.N < -1125899906842624 ∨ 1125899906842624 < t.N
        · rw [if_pos d]
          have e : (decide (-1125899906842624 ≤ t.N) && decide (t.N ≤ 1125899906842624)) = false := by rw [Bool.and_eq_false_iff, decide_eq_false_iff_not, decide_eq_false_iff_not]; omega
          rw [e]; rfl
        · rw [if_neg d]
          have e : (decide (-1125899906842624 ≤ t.N) && decide (t.N ≤ 1125899906842624)) = true := by rw [Bool.and_eq_true, decide_eq_true_eq, decide_eq_true_eq]; omega
          rw [e]; rfl
      | false =>
        simp only [Bool.not_false, yZ, zW, true_and]
        by_cases z : t.N = 0
        · rw [z]; rfl
        · rw [decide_eq_true z, yZ, if_pos z]; rfl
    · intro k
      simp only [yD]
      rw [wF, xC]
      show gG (Fa8 w x) _ = _
      rw [(next_ok h ht).1, zW]
theorem Next_ex {w : gW} {T P : Nat} (h : WfW w T P) (x : List eH) (hx : x.length ≤ 9223372036854775807) :
    ∃ v e w', Fac w x = some (v, e, w') ∧ WfW w' T P ∧ w'.phases = w.phases ∧ v.length ≤ w.rules.length ∧ w'.rules.length = w.rules.length := by
  rw [Next_eq h x hx]
  by_cases c : (x.length : Int) ≠ T
  · rw [if_pos c]; exact ⟨[], 2, w, rfl, h, rfl, by simp, rfl⟩
  · rw [if_neg c]
    have ht : x.length = T := by omega
    have fin : ∃ v e w', (some ((nxt x w).1, (0 : Int), (nxt x w).2)) = some (v, e, w') ∧ WfW w' T P ∧ w'.phases = w.phases ∧ v.length ≤ w.rules.length ∧ w'.rules.length = w.rules.length :=
      ⟨_, _, _, rfl, (next_ok h ht).2.1, rfl, by rw [(nxt_len x w).1]; exact Nat.le_refl _, (nxt_len x w).2⟩
    generalize (some ((nxt x w).1, (0 : Int), (nxt x w).2)) = fi at fin
    clear ht c hx
    generalize 0 = i
    induction x generalizing i with
    | nil => exact fin
    | cons t x ih =>
      rw [cO]
      by_cases d : tolE t = 0
      · rw [if_pos d]; exact ih (i + 1)
      · rw [if_neg d]; exact ⟨[], _, w, rfl, h, rfl, by simp, rfl⟩
theorem phL_short {r:Rules}(g:Gr' r)(bs:List Bool):(phL bs r.Phases).length≤50000∧ ∀s ∈ phL bs r.Phases,s.length≤30:=by
  have h1:=phL_len bs r.Phases
  have h2:=g.p
  refine ⟨by omega,fun s hs=>?_⟩
  obtain ⟨i,_,h⟩:=(phL_mem bs r.Phases s).1 hs
  exact g.pn s (List.mem_of_getElem? h)
end Go.Lf
namespace Go.Lf
open Go.OB
def okToldT (x:eH):Prop:=i64 x.N∧True
theorem loopO_invE {α β γ σ:Type}{body:(γ→Option β)→γ→Option β}(enc:Nat→σ→γ)(l:List α)(I:Nat→σ→Prop)(v:β)(hl:l.length≤9223372036854775807)
    (h: ∀k i s x,l[i]? =some x→i<l.length→I i s→ ∃s',I (i+1) s'∧body k (enc i s)=k (enc (i+1) s'))(hx: ∀k s,I l.length s→body k (enc l.length s)=some v)(s:σ)(h0:I 0 s):eG body (enc 0 s)=some v:=by
  obtain ⟨r,h1,h2⟩:=jA enc l I (fun r=>r=v) hl h (fun k s hI=>⟨v,hx k s hI,rfl⟩) s h0
  rw [h1,h2]
theorem copies_loop {r : Rules} {l : List fP} (h : GB r l) (told : List (List eH)) (ht : told.length ≤ 9223372036854775807) (hx : ∀ x ∈ told, x.length ≤ 9223372036854775807) :
    Fda told (fun _ => gG Fa6 fun x => some x) (some (newW r l), some (newW r l), 0) = some true := by
  have g := h.g
  have gl := g.l
  unfold Fda
  refine loopO_invE (fun (i : Nat) (w : gW) => (some w, some w, (i : Int))) (List.replicate (min told.length 30) ()) (fun _ w => WfW w l.length r.Phases.length ∧ w.phases = r.Phases ∧ w.rules.length = r.Rules.length) true (by simp; omega) (fun k i w u hu hi hI => ?_) (fun k w hI => ?_) (newW r l) ⟨newW_wf h, rfl, by show (r.Rules.mapIdx _).length = _; simp⟩
  · obtain ⟨w1, w2, w3⟩ := hI
    rw [List.length_replicate] at hi
    have a1 : at' told (i : Int) = some (told[i]'(by omega)) := dL (List.getElem?_eq_getElem (by omega))
    have e1 : IntKind.i64.wrap (IntKind.i64.wrap ((told.length : Int) - 1) - (i : Int)) = ((told.length - 1 - i : Nat) : Int) := by
      rw [wrap_i64 (n := (told.length : Int) - 1) (by omega) (by omega), wrap_i64 (by omega) (by omega)]; omega
    have a2 : at' told ((told.length - 1 - i : Nat) : Int) = some (told[told.length - 1 - i]'(by omega)) := dL (List.getElem?_eq_getElem (by omega))
    obtain ⟨v1, c1, u1, n1, m1, _⟩ := Next_ex w1 (told[told.length - 1 - i]'(by omega)) (hx _ (List.getElem_mem _))
    obtain ⟨v2, c2, u2, n2, m2, _⟩ := Next_ex m1 (told[i]'(by omega)) (hx _ (List.getElem_mem _))
    obtain ⟨v3, c3, u3, n3, m3, p3, l3, r3⟩ := Next_ex w1 (told[i]'(by omega)) (hx _ (List.getElem_mem _))
    obtain ⟨t1, ht1⟩ := lists1_ex v3 c3 (by omega)
    have ph := phL_short g u3.possible
    have pe : u3.phases = r.Phases := p3.trans w2
    obtain ⟨t2, ht2⟩ := texts_ex (phL u3.possible u3.phases) 0 (by rw [pe]; exact ph.1) (by rw [pe]; exact ph.2)
    refine ⟨u3, ⟨m3, pe, r3.trans w3⟩, ?_⟩
    simp only [yD]
    rw [decide_eq_true (by omega : (i : Int) < (told.length : Int)), decide_eq_true (by omega : (i : Int) < 30), yZ, zW, yZ, zW]
    show gG (Fbl w) _ = _
    rw [Copy_eq w1, zW, e1, a2, zW]
    show gG (Fac w _) _ = _
    rw [n1, zW, a1, zW]
    show gG (Fac u1 _) _ = _
    rw [n2, zW, zW]
    show gG (Fac w _) _ = _
    rw [n3, zW, zW, zW]
    show gG (Fac w _) _ = _
    rw [n3, zW]
    simp only []
    rw [ht1, zW, zW]
    show gG (gX (decide (t1 ≠ t1)) _ (gG (Fau u3) fun x3251 => gG (Fa3 x3251 0) fun x3260 => gG (Fau u3) _)) _ = _
    rw [Phase_eq m3, zW, ht2, zW, zW]
    simp only [ht2, zW, ne_eq, not_true_eq_false, decide_false, xC]
    rw [wrap_i64 (by omega) (by omega)]
    rfl
  · rw [List.length_replicate]
    simp only [yD]
    by_cases c : (told.length : Int) ≤ 30
    · rw [decide_eq_false (by omega : ¬ ((min told.length 30 : Nat) : Int) < (told.length : Int)), xC, zW, xC, reads_true, zW]
    · rw [decide_eq_true (by omega : ((min told.length 30 : Nat) : Int) < (told.length : Int)), yZ, decide_eq_false (by omega : ¬ ((min told.length 30 : Nat) : Int) < 30), zW, xC, reads_true, zW]
theorem law_Copies (r : Rules) (l : List fP) (told : List (List eH)) (hr : okRules r) (hl : okL (fun x => okTrack x) l) (ht : okL (fun x => okL (fun y => okToldT y) x) told) : Fdd r l told = some true := by
  have n := New_eq (l := l) (r := r) hr hl
  unfold Fdd
  by_cases z : bothE r l = 0
  · rw [if_pos z] at n
    rw [n, zW]
    simp only [yD, ne_eq, not_true_eq_false, decide_false, xC, zW, dF]
    exact copies_loop (both_gb hr z) told ht.1 fun x hx => (ht.2 x hx).1
  · rw [if_neg z] at n
    rw [n, zW]
    simp only [yD, ne_eq, z, not_false_eq_true, decide_true, yZ, zW, reads_true]
end Go.Lf
