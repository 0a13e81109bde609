/- Package variables that a row lists: texts, and errors. -/
import Derived.Test.YtgmikmoapfmedaaGreatDoorLfR
import Derived.LaidLaws
import Derived.Lib.LaidTab
import Derived.LaidSub
namespace Go.Lf
open Go.RowKit Go.OB
def rX {H:Type}(zs:List Str):DataW H:= .agg (zs.map fun z=> .lit (.string z))
theorem bs_of {s:ByteArray}{z:Str}(h:s.data.toList=z):s=bs z:=by
  subst h
  apply ByteArray.ext
  simp [bs]
theorem vO {H : Type} {enc : TypeId × Value → H} {P : Program} {w : World} {base : Nat} {sp : Nat → Bool} {held : Bool} {fuel : Nat} {t e : TypeId} {n : Nat} {cs : List Value} {zs : List Str} {p : List MemPlace}
    (ht : P.underlying t = some (.array n e)) (he : P.underlying e = some .string) (hce : P.cellsOf e = 1) (hct : P.cellsOf t = n)
    (h : DataW.trod enc P w base sp held fuel t cs = some (rX zs, p)) : cs = zs.map fun z => Value.string (bs z) := by
  cases fuel with
  | zero => simp [DataW.trod] at h
  | succ fuel =>
    simp only [DataW.trod, ht, hce, hct, Nat.mul_one] at h
    split at h
    · rename_i hl
      obtain ⟨xs, hm, hx⟩ := Option.map_eq_some_iff.1 h
      have hxs : xs.map (·.1) = zs.map fun z => (DataW.lit (.string z) : DataW H) := by
        have := congrArg Prod.fst hx
        simpa [rX] using this
      have hxl : xs.length = n := by simpa using Lib.mapM_length hm
      have hzl : zs.length = n := by
        have := congrArg List.length hxs
        simp at this
        omega
      apply List.ext_getElem?
      intro i
      by_cases hi : i < n
      · obtain ⟨b, hb, hf⟩ := Lib.mapM_at hm i i (by simp [hi])
        obtain ⟨z, hc, rfl, _⟩ := DataW.trod_string he hf
        have h1 : cs[i]? = some (.string z) := by
          have := congrArg (·[0]?) hc
          simpa [List.getElem?_take, List.getElem?_drop] using this
        have h2 : (xs.map (·.1))[i]? = some (DataW.lit (.string z.data.toList) : DataW H) := by simp [hb]
        rw [hxs] at h2
        simp only [List.getElem?_map, Option.map_eq_some_iff, DataW.lit.injEq, Lit.string.injEq] at h2
        obtain ⟨z', hz', e'⟩ := h2
        rw [h1, List.getElem?_map, hz']
        exact congrArg (fun b => some (Value.string b)) (bs_of e'.symm)
      · rw [List.getElem?_eq_none (by omega), List.getElem?_eq_none (by simp; omega)]
    · cases h
theorem aAc {P:Program}{W:World}{name:String}{zs:List Str}{rest:List (String×DataW Unit)}{g:Nat}{t e:TypeId}{n:Nat}
    (hg:P.globalNamed name=some g)(hty:(P.globals[g]?).map (·.type)=some t)(ht:P.underlying t=some (.array n e))(he:P.underlying e=some .string)(hce:P.cellsOf e=1)(hct:P.cellsOf t=n)
    (h:laidMet P ((name,rX zs) :: rest) W): ∀i z,zs[i]? =some z→W.cell? ⟨g,i,none⟩=some (.string (bs z)):=by
  obtain ⟨ps,⟨g',t',cs,fuel,p,q,hg',ht',hvar,hd,_,_⟩,_⟩:=h
  obtain rfl:=Option.some.inj (hg.symm.trans hg')
  obtain rfl:=Option.some.inj (hty.symm.trans ht')
  have hc:=vO ht he hce hct hd
  intro i z hz
  have:=World.var?_cell hg hvar i
  rw [this,← Array.getElem?_toList,hc,List.getElem?_map,hz]
  rfl
theorem vI {P:Program}{W:World}{name nm:String}{x:DataW Unit}{rest:List (String×DataW Unit)}{g:Nat}{t:TypeId}{ms:Array (String×TypeId)}
    (hg:P.globalNamed name=some g)(hty:(P.globals[g]?).map (·.type)=some t)(ht:P.underlying t=some (.interface ms))
    (h:laidMet P ((name,.iface nm x) :: rest) W): ∃T v,W.cell? ⟨g,0,none⟩=some (.iface T v):=by
  obtain ⟨ps,⟨g',t',cs,fuel,p,q,hg',ht',hvar,hd,_,_⟩,_⟩:=h
  obtain rfl:=Option.some.inj (hg.symm.trans hg')
  obtain rfl:=Option.some.inj (hty.symm.trans ht')
  obtain ⟨_,u,v,hc,_,_⟩:=iface_of_trod ht hd
  refine ⟨u,v,?_⟩
  have:=World.var?_cell hg hvar 0
  rw [this,← Array.getElem?_toList,hc]
  rfl
end Go.Lf
