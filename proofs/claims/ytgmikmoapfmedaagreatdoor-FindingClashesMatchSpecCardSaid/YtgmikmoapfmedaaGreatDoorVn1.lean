/- Names: both programs tell them alike. -/
import Derived.Test.YtgmikmoapfmedaaGreatDoorVOk
import Derived.Test.YtgmikmoapfmedaaGreatDoorPl
namespace Go.Lf
def kws:List Str:=[[112,104,97,115,101],[109,111,118,101],[114,117,108,101],[105,102],[111,114],[97,110,100],[116,114,117,101],[102,97,108,115,101],[115,116,101,97,100,121],[110,111,116],[102,111,114],[119,105,116,104,105,110],[99,111,117,110,116],[111,102],[114,105,115,101,115],[115,105,110,99,101]]
theorem aDr (a b c:Int):Fae a b c=some (decide (b≤a) && decide (a≤c)):=by
  unfold Fae; simp only [yF,uU,zN]
theorem aDw (a b c:Int):Fah a b c=some (decide (b≤a) && decide (a≤c)):=by
  unfold Fah; simp only [yF,uU,zN]
theorem out5 (a b c:Int):Faf a b c=some (decide (a<b) || decide (c<a)):=by
  unfold Faf; simp only [yF,uT,zN]
theorem out6 (a b c:Int):Fbt a b c=some (decide (a<b) || decide (c<a)):=by
  unfold Fbt; simp only [yF,uT,zN]
def isW (s:Str):Bool:=decide (s ∈ kws)
theorem isWord_eq (s:Str):Fay s=some (isW s):=by
  unfold Fay isW kws
  simp only [yF,iteB_or,zN,iteB_id,List.mem_cons,List.not_mem_nil,or_false,Bool.decide_or]
def nmB (c:Int):Bool:=(decide (97≤c) && decide (c≤122)) || (decide (48≤c) && decide (c≤57)) || decide (c=45)
theorem aBm (c:Int):Fav c=some (nmB c):=by
  unfold Fav nmB
  simp only [yF,zN]
  cases decide (97≤c)<;>cases decide (c≤122)<;>cases decide (48≤c)<;>cases decide (c≤57)<;>cases decide (c=45)<;>rfl
def vS:Nat→UInt8→Bool:=fun _ c=> !nmB (c.toNat:Int)
theorem isName_L1 (s : Str) (hs : okS s) (k : Unit → Option Bool) : Fb6 s k (s.length : Int) 0 = if aS vS s 0 = true then some false else k () := by
  unfold Fb6
  rw [dA s (fun i c => if vS i c = true then some (some false) else none) (k ()) hs]
  · exact jQ vS (some false) (k ()) s 0
  · intro kk i c hc hi
    unfold vS
    simp only [yF]
    rw [dN hi, yY, tK hc, zN, aBm, zN]
    cases nmB (c.toNat : Int)
    · rfl
    · simp only [Bool.not_true, xE]; rw [aI hi hs]; rfl
  · intro kk; simp only [yF]; rw [dO]; rfl
def qV (s:Str):Bool:=match s with
  | []=>false
  | c :: _=>decide (97≤(c.toNat:Int)) && decide ((c.toNat:Int)≤122)
def wU (s:Str):Bool:=decide (s.length≤30) && qV s && !isW s && !aS vS s 0
theorem isName_eq (s:Str)(hs:okS s):Fag s=some (wU s):=by
  unfold Fag wU
  simp only [yF,zN,aDr,dY,isName_L1 s hs,isWord_eq]
  cases s with
  | nil=>rfl
  | cons c l=>
    have h0:byte' (c :: l) 0=some (c.toNat:Int):=tK (i:=0) rfl
    have h1:decide ((1:Int)≤((c :: l).length:Int))=true:=decide_eq_true (by simp; omega)
    have h2:decide (((c :: l).length:Int)≤30)=decide ((c :: l).length≤30):=decide_eq_decide.2 (by omega)
    have h3:decide ((c.toNat:Int)<97)= !decide (97≤(c.toNat:Int)):=by rw [← decide_not]; exact decide_eq_decide.2 (by omega)
    have h4:decide (122<(c.toNat:Int))= !decide ((c.toNat:Int)≤122):=by rw [← decide_not]; exact decide_eq_decide.2 (by omega)
    rw [h0,h1,h2]
    simp only [zN,Bool.true_and,h3,h4,qV]
    cases decide ((c :: l).length≤30)<;>cases decide (97≤(c.toNat:Int))<;>cases decide ((c.toNat:Int)≤122)<;>cases isW (c :: l)<;>cases aS vS (c :: l) 0<;>rfl
end Go.Lf
