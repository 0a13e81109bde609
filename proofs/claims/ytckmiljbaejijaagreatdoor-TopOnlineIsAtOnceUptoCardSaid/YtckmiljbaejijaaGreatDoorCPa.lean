/- Walks: what each function computes, for every argument; no condition but those that stand in the statements. -/
import Derived.Test.YtckmiljbaejijaaGreatDoorEVa
namespace Go.Lf
open Go.OB
def tolE (t:ToldT):Int:=if t.Known=false∧t.N≠0 then 2 else if t.N< -1125899906842624∨1125899906842624<t.N then 9 else 0
theorem Next_eq {w : EventWatch} {T P : Nat} (h : WfW w T P) (x : List ToldT) (hx : x.length ≤ 9223372036854775807) :
    Fa0 w x = if (x.length : Int) ≠ T then some ([], 2, w) else findO (fun _ t => if tolE t = 0 then none else some (some ([], tolE t, w))) (some ((nxt x w).1, 0, (nxt x w).2)) x 0 := by
  unfold Fa0
  simp only [yD]
  rw [show decide ((x.length : Int) ≠ w.tracks) = decide ((x.length : Int) ≠ (T : Int)) by rw [h.tr]]
  by_cases c : (x.length : Int) ≠ T
  · rw [decide_eq_true c, yV, if_pos c]
  · rw [decide_eq_false c, yU, if_neg c, joinO_eq]
    have ht : x.length = T := by omega
    unfold Few
    refine wM x _ _ hx ?_ ?_
    · intro k i t hti hi
      simp only [yD]
      rw [wL hi, yV, at_ok hti, zU, wrap1 hi hx, ewithin]
      simp only [zU]
      unfold tolE
      cases t.Known with
      | true =>
        simp only [Bool.not_true, yU, zU, Bool.true_eq_false, false_and, if_false]
        by_cases d : t.N < -1125899906842624 ∨ 1125899906842624 < t.N
        · rw [if_pos d]
          have e : (decide (-1125899906842624 ≤ t.N) && decide (t.N ≤ 1125899906842624)) = false := by rw [Bool.and_eq_false_iff, decide_eq_false_iff_not, decide_eq_false_iff_not]; omega
          rw [e]; rfl
        · rw [if_neg d]
          have e : (decide (-1125899906842624 ≤ t.N) && decide (t.N ≤ 1125899906842624)) = true := by rw [Bool.and_eq_true, decide_eq_true_eq, decide_eq_true_eq]; omega
          rw [e]; rfl
      | false =>
        simp only [Bool.not_false, yV, zU, true_and]
        by_cases z : t.N = 0
        · rw [z]; rfl
        · rw [decide_eq_true z, yV, if_pos z]; rfl
    · intro k
      simp only [yD]
      rw [wK, yU]
      show bindO (Faf w x) _ = _
      rw [(next_ok h ht).1, zU]
theorem phL_short {r:Rules}(g:Gr' r)(bs:List Bool):(phL bs r.Phases).length≤50000∧ ∀s ∈ phL bs r.Phases,s.length≤30:=by
  have h1:=phL_len bs r.Phases
  have h2:=g.p
  refine ⟨by omega,fun s hs=>?_⟩
  obtain ⟨i,_,h⟩:=(phL_mem bs r.Phases s).1 hs
  exact g.pn s (List.mem_of_getElem? h)
end Go.Lf
namespace Go.Lf
open Go.OB
theorem smp_N {s : Series} (h : serC s = 0) {x : Sample} (hx : x ∈ s.Samples) : -1125899906842624 ≤ x.N ∧ x.N ≤ 1125899906842624 := by
  obtain ⟨-, -, hs⟩ := (ser_iff s).1 h
  obtain ⟨i, hi⟩ := List.getElem?_of_mem hx
  have q := hs i x hi
  unfold smpE at q
  split at q
  · exact absurd q (by decide)
  · rename_i c
    by_cases c1 : -1125899906842624 ≤ x.N
    · by_cases c2 : x.N ≤ 1125899906842624
      · exact ⟨c1, c2⟩
      · simp [c2] at c
    · simp [c1] at c
theorem hld_ok {s : Series} (h : serC s = 0) (t g : Int) : ((hld s t g).2 = false → (hld s t g).1.N = 0) ∧ -1125899906842624 ≤ (hld s t g).1.N ∧ (hld s t g).1.N ≤ 1125899906842624 := by
  unfold hld
  split
  · exact ⟨fun _ => rfl, by decide, by decide⟩
  · split
    · rename_i x hx
      split
      · exact ⟨fun _ => rfl, by decide, by decide⟩
      · have := smp_N h (List.mem_of_getElem? hx)
        exact ⟨fun q => (by cases q), this⟩
    · exact ⟨fun _ => rfl, by decide, by decide⟩
theorem trk_ser {l:List Track}(h:trkC l=0){t:Track}(ht:t ∈ l):serC t.Series=0:=by
  obtain ⟨h1,h2⟩:=(trk_iff l).1 h
  obtain ⟨i,hi⟩:=List.getElem?_of_mem ht
  exact ((trkE_iff l i t).1 (h2 i t hi)).2.2.1
theorem tel_tol {l:List Track}(h:trkC l=0)(a:Int)(k:Nat): ∀x ∈ tel l a k,tolE x=0∧ -1125899906842624≤x.N∧x.N≤1125899906842624:=by
  intro x hx
  unfold tel at hx
  obtain ⟨t,ht,rfl⟩:=List.mem_map.1 hx
  obtain ⟨q1,q2⟩:=hld_ok (trk_ser h ht) (64 * (a+(k:Int))+63) t.Long
  refine ⟨?_,q2⟩
  unfold tolE inT
  rw [if_neg (by rintro ⟨c1,c2⟩; exact c2 (q1 c1)),if_neg (by have:=q2.1; have:=q2.2; simp only; omega)]
theorem findO_pass {α β:Type}(f:Nat→α→Option (Option β))(fin:Option β): ∀(l:List α) (i:Nat),(∀j x,x ∈ l→f j x=none)→findO f fin l i=fin
  | [],_,_=>rfl
  | x :: l,i,h=>by
    rw [findO,h i x List.mem_cons_self]
    exact findO_pass f fin l (i+1) fun j y hy=>h j y (List.mem_cons_of_mem _ hy)
theorem Next_tel {w:EventWatch}{l:List Track}{P:Nat}(h:WfW w l.length P)(ht:trkC l=0)(a:Int)(k:Nat):Fa0 w (tel l a k)=some ((nxt (tel l a k) w).1,0,(nxt (tel l a k) w).2):=by
  have hl:=(good_trk ht).1
  rw [Next_eq h _ (by rw [tel_len]; omega),tel_len,if_neg (by simp)]
  exact findO_pass _ _ _ 0 fun j x hx=>by rw [if_pos (tel_tol ht a k x hx).1]
theorem Inputs_tel {l:List Track}(hl:okL okTrack l)(ht:trkC l=0){a:Int}{k:Nat}(h0:0≤a)(h1:a+k≤4194303):Fcx l (a+(k:Int))=some (tel l a k,0):=by
  unfold Fcx
  rw [CheckTracks_eq l hl,trkF_eq,ht,zU]
  simp only [yD,ne_eq,not_true_eq_false,decide_false,yU]
  rw [ewithin,zU,decide_eq_true (by omega:0≤a+(k:Int)),decide_eq_true h1]
  simp only [Bool.and_self,Bool.not_true,yU]
  rw [inputs_eq l _ ht (by omega) h1,zU]
  rfl
theorem cols_at {m:Nat}{rows:List (List Int)}{i k:Nat}(hi:i<m)(hk:k<rows.length): ∃c,(cols m rows)[i]? =some c∧c.length=rows.length∧c[k]? =some (rows[k].getD i 0):=
  ⟨_,cols_get hi,by rw [List.length_map],by rw [List.getElem?_map,List.getElem?_eq_getElem hk]; rfl⟩
end Go.Lf
namespace Go.Lf
open Go.OB
set_option maxRecDepth 1000000 in
theorem facts_true:Fdr=some true:=by kernel_rfl
theorem ink_told {r:Rules}(g:Gr' r)(bs:List Bool): ∃q t,Faw (Orangeboxref0Ink.mk []) (phL bs r.Phases)=some q∧Fcp (some q)=some t:=by
  obtain ⟨h1,h2⟩:=phL_short g bs
  obtain ⟨q,h3,h4⟩:=ink_Texts (Orangeboxref0Ink.mk []) (phL bs r.Phases) (b:=0) h2 (by simp) (by omega)
  exact ⟨q,_,h3,rfl⟩
theorem wr_sub {a:Int}{k:Nat}(h0:0≤a)(h1:a+k≤4194303):IntKind.i64.wrap (a+(k:Int) - a)=(k:Int):=by
  rw [show a+(k:Int) - a=(k:Int) by omega,wrap_i64 (by omega) (by omega)]
theorem on_L2 {r : Rules} {l : List Track} (h : GB r l) {a b : Int} (hs : spanE a b = 0) (k : Nat) (hk : k < spn a b) (K : Unit → Option Bool) :
    Fc6 a b (evV r l a b) (a + (k : Int)) (nxt (tel l a k) (runT (tel l a) (newW r l) k).2).1 K 0 = K () := by
  obtain ⟨s1, s2, s3, s4⟩ := span_ok hs
  have hn : spn a b = (b - a + 1).toNat := rfl
  have hl := h.g.l
  have hlen : (evV r l a b).length = r.Rules.length := cols_len _ _
  have rl := runT_len (tel l a) (newW r l) (spn a b)
  have rg := runT_get (tel l a) (newW r l) (spn a b) k hk
  have vl : (nxt (tel l a k) (runT (tel l a) (newW r l) k).2).1.length = r.Rules.length := by rw [(nxt_len _ _).1, run_rl]
  unfold Fc6
  refine (loopO_at (fun (i : Nat) => (i : Int)) (List.replicate r.Rules.length ()) (K ()) (by simp; omega) ?_ ?_)
  · intro kk i x hx hi
    rw [List.length_replicate] at hi
    obtain ⟨c, c1, c2, c3⟩ := cols_at (m := r.Rules.length) (rows := (runT (tel l a) (newW r l) (spn a b)).1) hi (k := k) (by rw [rl]; exact hk)
    have c1 : (evV r l a b)[i]? = some c := c1
    have rk : (runT (tel l a) (newW r l) (spn a b)).1[k]'(by rw [rl]; exact hk) = (nxt (tel l a k) (runT (tel l a) (newW r l) k).2).1 := by
      rw [List.getElem?_eq_getElem (by rw [rl]; exact hk)] at rg
      exact Option.some.inj rg
    rw [rk] at c3
    generalize (nxt (tel l a k) (runT (tel l a) (newW r l) k).2).1 = v at vl c3 ⊢
    have vi : v[i]? = some (v.getD i 0) := by rw [List.getD_eq_getElem?_getD, List.getElem?_eq_getElem (by omega)]; rfl
    simp only [yD]
    rw [hlen, wL hi, yV, at_ok c1, at_ok vi, wr_sub s1 (by omega)]
    simp only [zU]
    rw [at_ok c3, c2, rl, wr_span ⟨s1, s2, s3⟩, decide_eq_false (by omega : ¬ ((spn a b : Nat) : Int) ≠ b - a + 1), yU]
    simp only [zU, ne_eq, not_true_eq_false, decide_false, yU]
    rw [wrap1 hi (by omega)]
  · intro kk
    rw [List.length_replicate]
    simp only [yD]
    rw [hlen, wK, yU]
theorem on_L1 {r : Rules} {l : List Track} (ok : okL okTrack l) (h : GB r l) {a b : Int} (hs : spanE a b = 0) :
    Fc2 l a b (evV r l a b) (evP r l a b) (fun _ => some true) (some (newW r l), a) = some true := by
  obtain ⟨s1, s2, s3, s4⟩ := span_ok hs
  have hn : spn a b = (b - a + 1).toNat := rfl
  have hlen : (evV r l a b).length = r.Rules.length := cols_len _ _
  have w0 := newW_wf h
  unfold Fc2
  have e0 : (some (newW r l), a) = (fun (i : Nat) => (some (runT (tel l a) (newW r l) i).2, a + (i : Int))) 0 := by simp [runT]
  rw [e0]
  refine (loopO_at (fun (i : Nat) => (some (runT (tel l a) (newW r l) i).2, a + (i : Int))) (List.replicate (spn a b) ()) (some true) (by simp; omega) ?_ ?_)
  · intro kk i x hx hi
    rw [List.length_replicate] at hi
    have wi := runT_wf (f := tel l a) w0 (tel_len l a) i
    have vl : (nxt (tel l a i) (runT (tel l a) (newW r l) i).2).1.length = r.Rules.length := by rw [(nxt_len _ _).1, run_rl]
    obtain ⟨q, t, q1, q2⟩ := ink_told h.g (runT (tel l a) (newW r l) (i + 1)).2.possible
    have pe : (evP r l a b)[i]? = some (phL (runT (tel l a) (newW r l) (i + 1)).2.possible r.Phases) := by
      unfold evP
      rw [List.getElem?_map, List.getElem?_range hi]; rfl
    have f3 := (frame_ok h (a := a) i s1 (by omega)).2.2
    simp only [yD, joinO_eq]
    rw [decide_eq_true (by omega : a + (i : Int) ≤ b), yV, Inputs_tel ok h.t s1 (by omega), zU]
    simp only [ne_eq, not_true_eq_false, decide_false, yU, zU]
    show bindO (Fa0 (runT (tel l a) (newW r l) i).2 (tel l a i)) _ = _
    rw [Next_tel wi h.t a i, zU]
    simp only [hlen, vl, not_true_eq_false, decide_false, yU, zU]
    rw [on_L2 h hs i hi]
    show bindO (Fag (nxt (tel l a i) (runT (tel l a) (newW r l) i).2).2) _ = _
    rw [f3, zU, q1, zU, wr_sub s1 (by omega), at_ok pe, zU, q1, zU, q2, zU, zU]
    simp only [not_true_eq_false, decide_false, yU]
    rw [wrap_i64 (by omega) (by omega), show a + (i : Int) + 1 = a + ((i + 1 : Nat) : Int) by omega]
    rfl
  · intro kk
    rw [List.length_replicate]
    simp only [yD]
    rw [decide_eq_false (by omega : ¬ a + ((spn a b : Nat) : Int) ≤ b), yU]
theorem law_Online (r : Rules) (l : List Track) (a b : Int) (hr : okRules r) (hl : okL (fun x => okTrack x) l) (ha : i64 a) (hb : i64 b) (hn : r.Rules.length ≤ 2000000) : Fcz r l a b = some true := by
  have e1 := Evaluate_eq hr hl hn ha hb
  have e2 := Phases_eq hr hl ha hb
  have e3 := New_eq (r := r) (l := l) hr hl
  unfold Fcz
  rw [facts_true, zU]
  simp only [yD, Bool.not_true, yU]
  by_cases z : evE r l a b = 0
  · obtain ⟨g, s⟩ := ev_gb hr z
    obtain ⟨s1, s2, s3, s4⟩ := span_ok s
    have hn : spn a b = (b - a + 1).toNat := rfl
    have bz : bothE r l = 0 := by
      unfold evE at z
      split at z
      · rename_i c; exact absurd z c
      · rename_i c; simpa using c
    rw [if_pos z] at e1 e2
    rw [if_pos bz] at e3
    have l1 : (evV r l a b).length = r.Rules.length := cols_len _ _
    have l2 : (evP r l a b).length = spn a b := by unfold evP; simp
    rw [e1, e2, e3, zU]
    simp only [zU, ne_eq, not_true_eq_false, decide_false, yU, l1, l2, joinO_eq]
    rw [wr_span ⟨s1, s2, s3⟩, decide_eq_false (by omega : ¬ ¬ ((spn a b : Nat) : Int) = b - a + 1), yU]
    exact on_L1 hl g s
  · rw [if_neg z] at e1 e2
    rw [e1, e2, zU]
    simp only [zU, ne_eq, z, not_false_eq_true, decide_true, yV]
end Go.Lf
