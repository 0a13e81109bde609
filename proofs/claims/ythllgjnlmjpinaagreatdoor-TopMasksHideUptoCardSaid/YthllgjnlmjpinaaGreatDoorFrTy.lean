/- Rows of tables. -/
import Derived.Test.YthllgjnlmjpinaaGreatDoorNdTy
import Derived.Test.YthllgjnlmjpinaaGreatDoorLfT
namespace Go.Lf
open Go.RowKit Go.OB
structure gV where
  Key:Str
  Hidden:Bool
  Flights:Int
  Events:List Int
  deriving DecidableEq
def kG:Rp gV:=Rp.iso (Rp.pair Rp.str (Rp.pair Rp.bool (Rp.pair (Rp.int .i64) (Rp.sl (Rp.int .i64))))) fun x=>(x.Key,x.Hidden,x.Flights,x.Events)
theorem aGv {F:Nat→Prop}{w:World}{cs:List Value}{x:gV}(h:kG.rd F w cs x): ∃v1,cs= [.string (bs x.Key),.bool x.Hidden,.int .i64 x.Flights,v1]∧SlF (Rp.int .i64) F w v1 x.Events:=by
 obtain ⟨_,_,rfl,rfl,⟨_,_,rfl,rfl,⟨_,_,rfl,rfl,⟨v3,rfl,h3⟩⟩⟩⟩:=h;exact ⟨v3,rfl,h3⟩
def dK:Rt gV:=Rt.iso (Rt.pair (Rt.of Rp.str) (Rt.pair (Rt.of Rp.bool) (Rt.pair (Rt.of (Rp.int .i64)) (Rt.row (Rt.of (Rp.int .i64)) 3 [])))) fun x=>(x.Key,x.Hidden,x.Flights,x.Events)
theorem kC {cs:List Value}{bq:List Nat}{x:gV}{w w0:World}{O S:List Nat}{l:List Th}(H:Hd O w0 w S l)(i:Nat)(hi:l[i]? =some (.tr dK cs bq x)): ∃v0 b0,cs= [.string (bs x.Key),.bool x.Hidden,.int .i64 x.Flights,v0]∧Hd O w0 w S (rest [i] l++ [.tr (Rt.row (Rt.of (Rp.int .i64)) 3 []) [v0] b0 x.Events]):=by
  obtain ⟨_,_,_,_,rfl,rfl,⟨rfl,rfl⟩,⟨_,_,_,_,rfl,rfl,⟨rfl,rfl⟩,⟨_,_,_,b0,rfl,rfl,⟨rfl,rfl⟩,⟨v0,xs0,c0,rfl,e0,q0,r0⟩⟩⟩⟩:=H.item hi

  refine ⟨v0,b0,rfl,H.split i hi _ (by simp [bks,Th.blocks]) fun y hy=>?_⟩
  simp only [List.mem_cons,List.not_mem_nil,or_false] at hy
  rcases hy with rfl
  · exact ⟨v0,xs0,c0,rfl,e0,q0,r0⟩
theorem bY {x:gV}{w w0:World}{O S:List Nat}{l:List Th}{v0:Value}{b0:List Nat}(H:Hd O w0 w S l)(i0:Nat)(g0:l[i0]? =some (.tr (Rt.row (Rt.of (Rp.int .i64)) 3 []) [v0] b0 x.Events)): ∃bq,Hd O w0 w S (rest [i0] l++ [.tr dK [.string (bs x.Key),.bool x.Hidden,.int .i64 x.Flights,v0] bq x]):=by
 have h0:=H.item g0;exact ⟨[]++([]++([]++(b0))),H.unite [i0] (by simp) _ (by simp [Go.Lf.pick,bks,Th.blocks,g0]) ⟨[_],_,[],_,rfl,rfl,⟨rfl,rfl⟩,⟨[_],_,[],_,rfl,rfl,⟨rfl,rfl⟩,⟨[_],_,[],_,rfl,rfl,⟨rfl,rfl⟩,h0⟩⟩⟩⟩
theorem aMu:dK.Fr kG:=fr_iso (aLc aSu (aLc aSu (aLc aSu (fr_row aSu))))

end Go.Lf
