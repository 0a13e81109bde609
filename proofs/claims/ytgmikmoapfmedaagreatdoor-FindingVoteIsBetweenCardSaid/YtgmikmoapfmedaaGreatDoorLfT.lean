/- Walks: what each function computes, for every argument; no condition but those that stand in the statements. -/
import Derived.Test.YtgmikmoapfmedaaGreatDoorLfS
namespace Go.Lf
open Go.RowKit Go.OB
section ff
variable {α β:Type}
end ff
section hd
variable {P:Program} {ρ:Env} {w w0 w1 w':World} {d:Option Tmp} {x y z:Operand} {t u ty e:TypeId} {pos:String} {af:Array Edge} {g:Option (Nat×Bool)}
variable {v:Value} {b o i n c s m:Nat} {k k':IntKind} {cs xs vs:List Value} {bs:List Nat} {T:TypeId} {O O' S M:List Nat} {l l2:List Th} {α β:Type} {r:Rp α} {R:Rt α} {D:Hol} {xl yl zl:List α} {a:α} {j q:Int} {F:Nat→Prop}
end hd
end Go.Lf
namespace Go.Lf
open Go.RowKit Go.OB
section ops
variable {P:Program} {ρ:Env} {w w0 w1 w':World} {d:Option Tmp} {x y z:Operand} {t u ty e:TypeId} {pos:String} {af:Array Edge} {g:Option (Nat×Bool)}
variable {v:Value} {b o i n c s m:Nat} {k k':IntKind} {cs xs vs:List Value} {bs:List Nat} {T:TypeId} {O O' S M:List Nat} {l l2:List Th} {α β:Type} {r:Rp α} {R:Rt α} {D:Hol} {xl yl zl:List α} {a:α} {j q:Int} {F:Nat→Prop}
end ops
end Go.Lf
namespace Go.MxM
open Go.OB Go.RowKit
theorem XL_effCA {P:Program}{I:World→Prop}{N:Nat}{ops:Array Oper}{κ:List Kd}{K:Mm→Env→World→Prop}{k:Nat}{M:Mm}{σ:List Nat}{rest:List Oper}{ρ:Env}{w:World}{d:Nat}{op:Op}{ty:TypeId}{pos:String}{af:Array Edge}{g:Option (Nat×Bool)}{f:FuncId}{args:Array Value}{R:World→Ending→World→Prop}(hC: ∀w w',I w→fA w w'→I w')(hk:kdOf κ k= .eff)(hw:fK N ops ρ ⟨some d,op,ty,pos,af,g⟩=true)(hd:Nat.blt d N=true)(h: ∀w',fA w w'→DoC P ⟨some d,op,ty,pos,af,g⟩ ρ w' f args)
    (hc: ∀w',fA w w'→Calls P f args w' (R w'))(n: ∀w' e w'',fA w w'→R w' e w''→ ∃v,e= .returned v∧I w''∧XL P I N ops κ K (some fun x=>x<w''.heap.size) σ rest (upd ρ d v) w''):XL P I N ops κ K M (k :: σ) (⟨some d,op,ty,pos,af,g⟩ :: rest) ρ w:=by
  intro hl w' hw' hI a ha
  simp only [fZ]
  unfold xOp
  simp only [XL.head hl,hk]
  refine .inl ⟨by rw [ha.wanted]; exact hw,.inr (.inr ⟨f,args,by rw [ha.eval]; exact h w' hw',(hc w' hw').mono fun e w'' hR=>?_⟩)⟩
  obtain ⟨v,he,hs,hx⟩:=n w' e w'' hw' hR
  exact ⟨v,he,hs,_,fun A e x hx=>by cases e; exact hx,fun w3 hw3=>hx (XL.tail hl) w3 hw3 (hC _ _ hs hw3) _ (ha.put (xK hd) v)⟩
end Go.MxM
namespace Go.Lf
open Go.RowKit Go.OB
theorem Hd.alloc_ruleA {P : Program} {N : Nat} {ops : Array Oper} {κ : List MxM.Kd} {K : MxM.Mm → Env → World → Prop} {k : Nat} {σ : List Nat} {rest : List Oper} {ρ : Env} {w w0 : World} {d : Nat} {ty t : TypeId} {pos : String} {af : Array Edge} {g : Option (Nat × Bool)} {O S : List Nat} {l : List Th} {cs : List Value} {B : Nat} (H : Hd O w0 w S l) (hk : MxM.kdOf κ k = .mk B) (hw : fK N ops ρ ⟨some d, .alloc t, ty, pos, af, g⟩ = true) (hd : Nat.blt d N = true) (hz : OB.Zero P t cs)
    (n : ∀ M b w', Hd O w0 w' S (l ++ [.blk b cs t]) → MxM.XL P (fun w' => Only S w0 w') N ops κ K M σ rest (upd ρ d (.pointer (some ⟨b, 0, none⟩))) w') :
    MxM.XL P (fun w' => Only S w0 w') N ops κ K (some fun x => x < w.heap.size) (k :: σ) (⟨some d, .alloc t, ty, pos, af, g⟩ :: rest) ρ w := by
  refine MxM.XL_mk (m := .ptr) (cs := cs) (T := t) (fun _ _ => oS _ _) hk hw hd (fun w' _ => ?_) fun b w' q1 q2 q3 q4 => n _ b w' (H.add (Only.of_below q1) (fun _ => q4) (fun b' hb' => ?_) (by simp [Th.blocks]))
  · unfold OB.Zero at hz
    cases hi : P.info? t with
    | none => rw [hi] at hz; cases hz
    | some inf =>
      rw [hi] at hz
      cases hzz : inf.zero with
      | none => simp [hzz] at hz
      | some zv =>
        simp [hzz] at hz
        unfold Do
        simp [execOp, Instr.alloc, zeroValue, typeInfo, hi, hzz, newVar, newRow, newObj, Sem.run, ← hz, MxM.Mk.val]
  · have : b' = b := by simpa [Th.blocks] using hb'
    subst this
    exact ⟨Nat.le_of_not_lt q3, (Array.getElem?_eq_some_iff.1 q4).1⟩
end Go.Lf
