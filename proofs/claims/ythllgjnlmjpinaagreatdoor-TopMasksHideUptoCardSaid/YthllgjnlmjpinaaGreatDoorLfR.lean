/- Walks: what each function computes, for every argument; no condition but those that stand in the statements. -/
import Derived.Test.YthllgjnlmjpinaaGreatDoorLfQ
import Derived.Test.YthllgjnlmjpinaaGreatDoorObC
import Derived.WideLaws
import Derived.Lib.AppendStr
namespace Go.Lf
open Go.RowKit Go.OB
section
variable {P:Program} {N:Nat} {Q:Exit→Env→World→Prop} {ρ:Env} {w w0 w1 w':World} {O S:List Nat} {l l2:List Th} {i n0:Nat} {A:Nat→Prop}
def frm (O:List Nat)(l:List Th)(w0:World):Nat→Prop:=fun b=>frees O l b∧b<w0.heap.size
structure Hm (n0:Nat)(A:Nat→Prop)(O:List Nat)(w0 w:World)(S:List Nat)(l:List Th):Prop where
  only:Only S w0 w
  holds: ∀it ∈ l,it.holds (frm O l w0) w
  own: ∀it ∈ l,∀b ∈ it.blocks,(w0.heap.size≤b∨b ∈ S)∧b<w.heap.size
  nd:(bks l).Nodup
  fo: ∀b ∈ O,b<w0.heap.size∧b ∉ S
  made: ∀i it,l[i]? =some it→ ∀c ∈ it.blocks,(i<n0∧c<w0.heap.size)∨(n0≤i∧A c)
theorem Hd.hm (H:Hd O w w S l):Hm l.length (fun _=>False) O w w S l:=
  ⟨H.only,fun it hm=>Th.same (H.holds it hm) (fun _ h hl=>⟨⟨h,hl⟩,rfl⟩) (fun _ _=>rfl),H.own,H.nd,H.fo,fun i it hi c hc=> .inl ⟨(List.getElem?_eq_some_iff.1 hi).1,(H.own it (List.mem_of_getElem? hi) c hc).2⟩⟩
theorem Hm.hd (H:Hm n0 A O w0 w S l):Hd O w0 w S l:=
  ⟨H.only,fun it hm=>Th.same (H.holds it hm) (fun _ h _=>⟨h.1,rfl⟩) (fun _ _=>rfl),H.own,H.nd,H.fo⟩
theorem Hm.item (H:Hm n0 A O w0 w S l){it:Th}(hi:l[i]? =some it):it.holds (frm O l w0) w:=H.holds it (List.mem_of_getElem? hi)
theorem Hm.step (H:Hm n0 A O w0 w S l)(ho:Only [] w w'):Hm n0 A O w0 w' S l:=
  ⟨H.only.trans (ho.mono (by simp)),fun it hm=>Th.same (H.holds it hm) (fun b hb hl=>⟨hb,qL ho hl⟩) (fun b hb=>qL ho (H.own it hm b hb).2),
   fun it hm b hb=>⟨(H.own it hm b hb).1,Nat.lt_of_lt_of_le (H.own it hm b hb).2 ho.size⟩,H.nd,H.fo,H.made⟩
theorem Hm.sees (H:Hm n0 A O w0 w S l)(ho:fJ w w'):Hm n0 A O w0 w' S l:=H.step (Only.of_below ho)
theorem frm_fz {p:Fz}:frm O (l++ [.fz p]) w0=frm O l w0:=by funext b; unfold frm; rw [aPa]
theorem Hm.fz (H : Hm n0 A O w0 w S l) (p : Fz) (hp : p.p (frm O l w0) w) : Hm n0 A O w0 w S (l ++ [.fz p]) := by
  refine ⟨H.only, fun it hm => ?_, fun it hm => ?_, ?_, H.fo, fun i it hi c hc => ?_⟩
  · rw [frm_fz]
    rcases List.mem_append.1 hm with hm | hm
    · exact H.holds it hm
    · obtain rfl := List.mem_singleton.1 hm; exact hp
  · rcases List.mem_append.1 hm with hm | hm
    · exact H.own it hm
    · obtain rfl := List.mem_singleton.1 hm; simp [Th.blocks]
  · rw [mZ]; simpa [bks, Th.blocks] using H.nd
  · by_cases h : i < l.length
    · rw [List.getElem?_append_left h] at hi; exact H.made i it hi c hc
    · rw [List.getElem?_append_right (by omega)] at hi
      have := List.mem_of_getElem? hi
      obtain rfl := List.mem_singleton.1 this; simp [Th.blocks] at hc
theorem Hm.fzs: ∀{l:List Th} (ps:List Fz),Hm n0 A O w0 w S l→allp (frm O l w0) w ps→Hm n0 A O w0 w S (l++ps.map Th.fz)
  | l,[],H,_=>by simpa using H
  | l,p :: ps,H,h=>by
    have h1:=H.fz p h.1
    have h2:=Hm.fzs (l:=l++ [.fz p]) ps h1 (by rw [frm_fz]; exact h.2)
    simpa using h2
theorem Hm.enter (H:Hm n0 A O w0 w S l)(ow fs:List Nat)(hn:(ow++fs).Nodup)(hf:fs.all (aRh l)=true):
    Hd (O++bks (rest ow l)) w w (bks (Go.Lf.pick (ow++fs) l)) (Go.Lf.pick (ow++fs) l):=H.hd.enter ow fs hn hf
theorem Hm.freeze {α : Type} {r : Rp α} {v : Value} {e : TypeId} {xl : List α} (H : Hm n0 A O w0 w S l) (hi : l[i]? = some (.own r v e xl)) (hlt : Nat.blt i n0 = true := by rfl) : Hm n0 A O w0 w S (l.set i (.fz (.sl r v xl))) := by
  have hin : i < n0 := by simpa using hlt
  have G := H.hd.freeze hi
  have hil := (List.getElem?_eq_some_iff.1 hi).1
  have hsub : ∀ {c}, c ∈ bks (l.set i (.fz (.sl r v xl))) → c ∈ bks l := fun {c} hx => by
    rcases wV hx with h | ⟨j, x, hj, hx, hbx⟩
    · simp [Th.blocks] at h
    · exact dQ.2 ⟨x, List.mem_of_getElem? hx, hbx⟩
  have hS : Same (frm O l w0) (frm O (l.set i (.fz (.sl r v xl))) w0) w w := fun b hb _ => ⟨⟨⟨hb.1.1, fun hx => hb.1.2 (hsub hx)⟩, hb.2⟩, rfl⟩
  refine ⟨G.only, fun it hm => ?_, G.own, G.nd, H.fo, fun j it hj c hc => ?_⟩
  · rcases List.mem_or_eq_of_mem_set hm with hm' | rfl
    · exact Th.same (H.holds it hm') hS (fun _ _ => rfl)
    · obtain ⟨xs, h1, h2⟩ := H.item hi
      have hb0 : ∀ b, aH v = some b → b < w0.heap.size := fun b hb => by
        rcases H.made i _ hi b (kK.2 hb) with h | h
        · exact h.2
        · omega
      refine ⟨xs, cO hS h1, vI h2, fun h0 b hb => ⟨⟨⟨?_, ?_⟩, hb0 b hb⟩, (H.own _ (List.mem_of_getElem? hi) b (kK.2 hb)).2⟩⟩
      · exact H.hd.notO (List.mem_of_getElem? hi) (show b ∈ (Th.own r v e xl).blocks from kK.2 hb)
      · have hbm : b ∈ (Th.own r v e xl).blocks := kK.2 hb
        intro hm
        rcases wV hm with h | ⟨j, x, hj, hx, hbx⟩
        · simp [Th.blocks] at h
        · exact H.hd.apart hx hi hj b hbx hbm
  · rw [List.getElem?_set] at hj
    by_cases e : i = j
    · subst e
      rw [if_pos rfl, if_pos hil] at hj
      cases hj; simp [Th.blocks] at hc
    · rw [if_neg e] at hj
      exact H.made j it hj c hc
theorem Hm.add {b : Nat} {cs : List Value} {T : TypeId} (H : Hm n0 A O w0 w S l) (hs : fJ w w') (hb : w0.heap.size ≤ b) (hn : ¬ A b) (hB : Blk w' b cs T) {it : Th} (hn0 : n0 ≤ l.length) (hblk : it.blocks = [b]) (hh : it.holds (frm O l w0) w') :
    Hm n0 (fun x => x = b ∨ A x) O w0 w' S (l ++ [it]) := by
  have H := H.sees hs
  have hbl : b ∉ bks l := fun hm => by
    obtain ⟨x, hx, hbx⟩ := dQ.1 hm
    obtain ⟨i, hi⟩ := List.getElem?_of_mem hx
    rcases H.made i x hi b hbx with h | h
    · omega
    · exact hn h.2
  have hF : ∀ {c}, frm O l w0 c → frm O (l ++ [it]) w0 c := fun {c} hc => ⟨⟨hc.1.1, by
    rw [mZ, List.mem_append]
    rintro (h | h)
    · exact hc.1.2 h
    · have : c = b := by simpa [bks, hblk] using h
      have := hc.2
      omega⟩, hc.2⟩
  have hsz : b < w'.heap.size := (Array.getElem?_eq_some_iff.1 hB).1
  refine ⟨H.only, fun x hm => ?_, fun x hm c hc => ?_, ?_, H.fo, fun i x hi c hc => ?_⟩
  · rcases List.mem_append.1 hm with hm | hm
    · exact Th.same (H.holds x hm) (fun c hc _ => ⟨hF hc, rfl⟩) (fun _ _ => rfl)
    · obtain rfl := List.mem_singleton.1 hm
      exact Th.same hh (fun c hc _ => ⟨hF hc, rfl⟩) (fun _ _ => rfl)
  · rcases List.mem_append.1 hm with hm | hm
    · exact H.own x hm c hc
    · obtain rfl := List.mem_singleton.1 hm
      rw [hblk] at hc; obtain rfl := List.mem_singleton.1 hc
      exact ⟨.inl hb, hsz⟩
  · rw [mZ, List.nodup_append]
    refine ⟨H.nd, by simp [bks, hblk], fun a ha c hc => ?_⟩
    have : c = b := by simpa [bks, hblk] using hc
    subst this
    exact fun e => hbl (e ▸ ha)
  · by_cases h : i < l.length
    · rw [List.getElem?_append_left h] at hi
      rcases H.made i x hi c hc with h | h
      · exact .inl h
      · exact .inr ⟨h.1, .inr h.2⟩
    · rw [List.getElem?_append_right (by omega)] at hi
      obtain rfl := List.mem_singleton.1 (List.mem_of_getElem? hi)
      rw [hblk] at hc; obtain rfl := List.mem_singleton.1 hc
      exact .inr ⟨by omega, .inl rfl⟩
def okM (B:Nat):List MxM.Kd→Prop
  | []=>True
  | k :: l=>(match k with | .mk B'=>B'=B | _=>True)∧okM B l
theorem aFu {B:Nat}: ∀{κ:List MxM.Kd},okM B κ→ ∀{i B'},MxM.kdOf κ i= .mk B'→B'=B
  | [],_,i,B',h=>by simp [MxM.kdOf] at h
  | k :: κ,hκ,0,B',h=>by
    have:k= .mk B':=by simpa [MxM.kdOf] using h
    subst this; exact hκ.1
  | k :: κ,hκ,i+1,B',h=>aFu hκ.2 (i:=i) (by simpa [MxM.kdOf] using h)
theorem WP_mixM {id:Nat}{c:List Oper}(_H:Hd O w w S l)(σ:List Nat)(κ:List MxM.Kd)(hκ:okM w.heap.size κ)(hm:P.follows .mixedOrders=true)(hs:Region.noSelect c.toArray=true)(hed:MxM.edgesB .any c.toArray=true)(hp:MxM.pairB .any c.toArray (MxM.kdOf κ) σ=true)
    (hσ:σ.isPerm (List.range c.length)=true)(h:MxM.XL P (fun w'=>Only S w w') N c.toArray κ (fun _ ρ w=>Q .normal ρ w) (some fun _=>False) σ (MxM.sel c σ) ρ w):WP P N (.region id c.toArray true) Q ρ w:=
  MxM.WP_mix σ κ (fun i B hb w' hw'=>by rw [aFu hκ hb]; exact hw'.size) hm hs hed hp hσ (fun _ _=>oS _ _) (Only.refl S w) h
theorem Hd.firmB {b:Nat}{cs:List Value}{T:TypeId}{l1:List Th}{S1 O1:List Nat}(H:Hd O w w S l)(H1:Hd O1 w w S1 l1)(hi:l[i]? =some (.blk b cs T))(hb:b ∈ O1): ∀w',Only S1 w w'→Blk w' b cs T:=fun w' ho=>
  jC (H.item hi) (ho.block b (H1.fo b hb).1 (H1.fo b hb).2)
theorem vU {id:Nat}{c:List Oper}{S1 O1:List Nat}{l1:List Th}(_H:Hd O w w S l)(_H1:Hd O1 w w S1 l1)(pre:List Nat)(u v:Nat)(post l2:List Nat)(κ:List MxM.Kd)(hκ:okM w.heap.size κ)(hm:P.follows .mixedOrders=true)(hs:Region.noSelect c.toArray=true)(hed:MxM.edgesB .any c.toArray=true)(hp:MxM.forkB .any c.toArray (MxM.kdOf κ) pre u v post=true)(hb:MxM.barB .any c.toArray (MxM.kdOf κ) (pre++u :: v :: post) l2=true)(hp2:MxM.pairB .any c.toArray (MxM.kdOf κ) l2=true)
    (hσ:(pre++u :: v :: (post++l2)).isPerm (List.range c.length)=true)
    (h:MxM.XL P (fun w'=>Only S1 w w') N c.toArray κ (fun M ρ w2=>MxM.XL P (fun w'=>Only S1 w w') N c.toArray κ (fun _ ρ w2=>Only S w w2∧MxM.XL P (fun w'=>Only S w w') N c.toArray κ (fun _ ρ w=>Q .normal ρ w) none l2 (MxM.sel c l2) ρ w2) M (u :: v :: post) (MxM.sel c (u :: v :: post)) ρ w2∧MxM.XL P (fun w'=>Only S1 w w') N c.toArray κ (fun _ ρ w2=>Only S w w2∧MxM.XL P (fun w'=>Only S w w') N c.toArray κ (fun _ ρ w=>Q .normal ρ w) none l2 (MxM.sel c l2) ρ w2) M (v :: u :: post) (MxM.sel c (v :: u :: post)) ρ w2) (some fun _=>False) pre (MxM.sel c pre) ρ w):WP P N (.region id c.toArray true) Q ρ w:=
  MxM.WP_fork (I:=fun w'=>Only S1 w w') (I0:=fun w'=>Only S w w') pre u v post l2 κ (fun i B hb w' hw'=>by rw [aFu hκ hb]; exact hw'.size) (fun i B hb w' hw'=>by rw [aFu hκ hb]; exact hw'.size) hm hs hed hp hb hp2 hσ (fun _ _=>oS _ _) (fun _ _=>oS _ _) (Only.refl S1 w) h
end
section
variable {P:Program} {N:Nat} {ops:Array Oper} {κ:List MxM.Kd} {K:MxM.Mm→Env→World→Prop} {k:Nat} {σ:List Nat} {rest:List Oper} {ρ:Env} {w w0:World} {v:Value} {d:Nat} {ty t e:TypeId} {pos:String} {af:Array Edge} {g:Option (Nat×Bool)} {x:Operand}
variable {O S:List Nat} {l:List Th} {α:Type} {r:Rp α} {xl:List α} {cs:List Value} {A:Nat→Prop} {n0:Nat}
theorem Hm.alloc_rule (H:Hm n0 A O w0 w S l)(hn0:Nat.ble n0 l.length=true)(hk:MxM.kdOf κ k= .mk w0.heap.size)(hw:dA N ops ρ ⟨some d,.alloc t,ty,pos,af,g⟩=true)(hd:Nat.blt d N=true)(hz:OB.Zero P t cs)
    (n: ∀b w',Hm n0 (fun x=>x=b∨A x) O w0 w' S (l++ [.blk b cs t])→MxM.XL P (fun w'=>Only S w0 w') N ops κ K (some fun x=>x=b∨A x) σ rest (upd ρ d (.pointer (some ⟨b,0,none⟩))) w'):
    MxM.XL P (fun w'=>Only S w0 w') N ops κ K (some A) (k :: σ) (⟨some d,.alloc t,ty,pos,af,g⟩ :: rest) ρ w:=by
  refine MxM.XL_mk (m:= .ptr) (cs:=cs) (T:=t) (fun _ _=>oS _ _) hk hw hd (fun w' _=>?_) fun b w' q1 q2 q3 q4=>n b w' (H.add q1 q2 q3 q4 (Nat.le_of_ble_eq_true hn0) rfl q4)
  unfold OB.Zero at hz
  cases hi:P.info? t with
  | none=>rw [hi] at hz; cases hz
  | some inf=>
    rw [hi] at hz
    cases hzz:inf.zero with
    | none=>simp [hzz] at hz
    | some zv=>
      simp [hzz] at hz
      unfold Do
      simp [execOp,Instr.alloc,zeroValue,typeInfo,hi,hzz,newVar,newRow,newObj,Sem.run,← hz,MxM.Mk.val]
theorem Hm.bs_rule {len bytes : Nat} {zs : List Value} {parts : Array (Nat × Operand)} (H : Hm n0 A O w0 w S l) (hn0 : Nat.ble n0 l.length = true) (hk : MxM.kdOf κ k = .mk w0.heap.size) (hw : dA N ops ρ ⟨some d, .buildSlice t len parts, ty, pos, af, g⟩ = true) (hd : Nat.blt d N = true)
    (hu : P.underlying t = some (.slice e)) (he : El P e r.sz bytes zs) (hsmall : len * r.sz ≤ 16777216) (hpos : 0 < len * r.sz) (hln : xl.length = len)
    (hf : rQ r.sz len zs (parts.toList.map fun p => (p.1, ev ρ p.2)) = some cs) (hr : rows r (frm O l w0) w cs xl)
    (n : ∀ v b w', Hm n0 (fun x => x = b ∨ A x) O w0 w' S (l ++ [.own r v e xl]) → MxM.XL P (fun w' => Only S w0 w') N ops κ K (some fun x => x = b ∨ A x) σ rest (upd ρ d v) w') :
    MxM.XL P (fun w' => Only S w0 w') N ops κ K (some A) (k :: σ) (⟨some d, .buildSlice t len parts, ty, pos, af, g⟩ :: rest) ρ w := by
  refine MxM.XL_mk (m := .sl len) (cs := cs) (T := e) (fun _ _ => oS _ _) hk hw hd (fun w' _ => ?_) fun b w' q1 q2 q3 q4 => n _ b w' (H.add q1 q2 q3 q4 (Nat.le_of_ble_eq_true hn0) rfl ?_)
  · obtain ⟨i, z, h1, h2, h3, h4, h5⟩ := he.get
    unfold Do
    unfold rQ at hf
    rw [Option.map_eq_some_iff] at hf
    obtain ⟨ca, hf, rfl⟩ := hf
    have hr := run_buildSlice (P := P) w' t e len (parts.map fun (i, x) => (i, ev ρ x)) ca i z hu h1 h2 (by rw [h3]; omega) (by rw [h3]; omega) (by
      rw [h3, h5, Array.toList_map]; exact hf)
    simp [execOp, hr, MxM.Mk.val]
  · have hlen := aI hr
    have hs : Same (frm O l w0) (frm O l w0) w w' := fun c hc hl => ⟨hc, qL (Only.of_below q1) hl⟩
    subst hln
    refine ⟨cs, cO hs hr, hlen, .inr ⟨b, xl.length, cs.toArray, rfl, Nat.zero_le _, q4, Nat.le_refl _, ?_, (by simpa using hlen), (by rw [List.take_of_length_le]; simp [hlen])⟩⟩
    rw [maxLen_eq]
    have h0 : r.sz ≠ 0 := (by intro h; rw [h] at hpos; simp at hpos)
    have : xl.length ≤ xl.length * r.sz := Nat.le_mul_of_pos_right _ (by omega)
    omega
theorem Hd.bs_ruleA {B : Nat} {len bytes : Nat} {zs : List Value} {parts : Array (Nat × Operand)} (H : Hd O w0 w S l) (hk : MxM.kdOf κ k = .mk B) (hw : dA N ops ρ ⟨some d, .buildSlice t len parts, ty, pos, af, g⟩ = true) (hd : Nat.blt d N = true)
    (hu : P.underlying t = some (.slice e)) (he : El P e r.sz bytes zs) (hsmall : len * r.sz ≤ 16777216) (hpos : 0 < len * r.sz) (hln : xl.length = len)
    (hf : rQ r.sz len zs (parts.toList.map fun p => (p.1, ev ρ p.2)) = some cs) (hr : rows r (frees O l) w cs xl)
    (n : ∀ M v w', Hd O w0 w' S (l ++ [.own r v e xl]) → MxM.XL P (fun w' => Only S w0 w') N ops κ K M σ rest (upd ρ d v) w') :
    MxM.XL P (fun w' => Only S w0 w') N ops κ K (some fun x => x < w.heap.size) (k :: σ) (⟨some d, .buildSlice t len parts, ty, pos, af, g⟩ :: rest) ρ w := by
  refine MxM.XL_mk (m := .sl len) (cs := cs) (T := e) (fun _ _ => oS _ _) hk hw hd (fun w' _ => ?_) fun b w' q1 q2 q3 q4 => n _ _ w' (H.add (Only.of_below q1) (fun hs => ⟨cs, cO hs hr, ?_⟩) (fun b' hb' => ?_) (rV _))
  · obtain ⟨i, z, h1, h2, h3, h4, h5⟩ := he.get
    unfold Do
    unfold rQ at hf
    rw [Option.map_eq_some_iff] at hf
    obtain ⟨ca, hf, rfl⟩ := hf
    have hr := run_buildSlice (P := P) w' t e len (parts.map fun (i, x) => (i, ev ρ x)) ca i z hu h1 h2 (by rw [h3]; omega) (by rw [h3]; omega) (by
      rw [h3, h5, Array.toList_map]; exact hf)
    simp [execOp, hr, MxM.Mk.val]
  · have hlen := aI hr
    subst hln
    refine ⟨hlen, .inr ⟨b, xl.length, cs.toArray, rfl, Nat.zero_le _, q4, Nat.le_refl _, ?_, (by simpa using hlen), (by rw [List.take_of_length_le]; simp [hlen])⟩⟩
    rw [maxLen_eq]
    have h0 : r.sz ≠ 0 := (by intro h; rw [h] at hpos; simp at hpos)
    have : xl.length ≤ xl.length * r.sz := Nat.le_mul_of_pos_right _ (by omega)
    omega
  · have : b' = b := by simpa [Th.blocks, ob, aH, MxM.Mk.val] using hb'
    subst this
    exact ⟨Nat.le_of_not_lt q3, (Array.getElem?_eq_some_iff.1 q4).1⟩
end
theorem one_cells {v:Value}(h:v.oneCell'=true):v.cells= #[v]:=by cases v<;>simp_all [Value.oneCell',Value.cells]
theorem uD: ∀{vs:List Value},aHf vs→aSr 1 vs∧vs.flatMap (fun v=>v.cells.toList)=vs
  | [],_=>⟨trivial,rfl⟩
  | v :: vs,h=>by
    have ih:=uD h.2
    have e:=one_cells h.1
    refine ⟨⟨by rw [e]; rfl,ih.1⟩,?_⟩
    rw [List.flatMap_cons,e,ih.2]; rfl
theorem qJ {ρ:Env}{len:Nat}{zs vs:List Value}{parts:List (Nat×Operand)}(hi:parts.map Prod.fst=List.range len)(hv:parts.map (fun p=>ev ρ p.2)=vs)(h1:aHf vs):
    rQ 1 len zs (parts.map fun p=>(p.1,ev ρ p.2))=some vs:=xI (by decide) hi hv (uD h1).1 (uD h1).2
end Go.Lf
namespace Go.OB
open Go.RowKit
end Go.OB
namespace Go.Lf
section
variable {α:Type} {F:Nat→Prop} {w:World}
def Rp.bot (n:Nat):Rp α:=⟨n,fun _ _ _ _=>False,fun h=>h.elim,fun h=>h.elim,fun _ h=>h⟩
def Rp.le (a b:Rp α):Prop:=a.sz=b.sz∧ ∀F w cs x,a.rd F w cs x→b.rd F w cs x
theorem aMk {a b:Rp α}(h:a.le b): ∀{l:List α} {cs:List Value},rows a F w cs l→rows b F w cs l
  | [],_,q=>q
  | _ :: _,_,⟨c,d,e,h1,h2⟩=>⟨c,d,e,h.2 _ _ _ _ h1,aMk h h2⟩
theorem slf_le {a b:Rp α}(h:a.le b){v:Value}{l:List α}:SlF a F w v l→SlF b F w v l:=fun ⟨xs,r1,r2,r3⟩=>⟨xs,aMk h r1,h.1 ▸ r2,r3⟩
def Rp.lim (f:Nat→Rp α)(n:Nat)(h: ∀i,(f i).sz=n):Rp α:=
  ⟨n,fun F w cs x=> ∃i,(f i).rd F w cs x,fun ⟨i,q⟩=>((f i).len q).trans (h i),fun ⟨i,q⟩=>(f i).one q,fun hs ⟨i,q⟩=>⟨i,(f i).mono hs q⟩⟩
theorem le_lim {f:Nat→Rp α}{n:Nat}{h: ∀i,(f i).sz=n}(i:Nat):(f i).le (Rp.lim f n h):=⟨h i,fun _ _ _ _ q=>⟨i,q⟩⟩
theorem aUp {f:Nat→Rp α}(hm: ∀i,(f i).le (f (i+1))){i:Nat}: ∀d,(f i).le (f (i+d))
  | 0=>⟨rfl,fun _ _ _ _ q=>q⟩
  | d+1=>⟨(aUp hm d).1.trans (hm (i+d)).1,fun _ _ _ _ q=>(hm (i+d)).2 _ _ _ _ ((aUp hm d).2 _ _ _ _ q)⟩
theorem aNv {f:Nat→Rp α}{n:Nat}{h: ∀i,(f i).sz=n}(hm: ∀i,(f i).le (f (i+1))): ∀{l:List α} {cs:List Value},rows (Rp.lim f n h) F w cs l→ ∃i,rows (f i) F w cs l
  | [],_,q=>⟨0,q⟩
  | _ :: _,_,⟨c,d,e,⟨i,h1⟩,h2⟩=>by
    obtain ⟨j,h3⟩:=aNv hm h2
    refine ⟨i+j,c,d,e,(aUp hm j).2 _ _ _ _ h1,?_⟩
    have q:=aMk (aUp hm (i:=j) i) h3
    rwa [Nat.add_comm] at q
theorem slf_lim {f:Nat→Rp α}{n:Nat}{h: ∀i,(f i).sz=n}(hm: ∀i,(f i).le (f (i+1))){v:Value}{l:List α}:SlF (Rp.lim f n h) F w v l→ ∃i,SlF (f i) F w v l:=fun ⟨xs,r1,r2,r3⟩=>by
  obtain ⟨i,q⟩:=aNv hm r1
  exact ⟨i,xs,q,by rw [h i]; exact r2,r3⟩
end
end Go.Lf
namespace Go.Lf
open Go.RowKit Go.OB
end Go.Lf
