/- Laws that the claim stands on; no condition beyond those stated. -/
import Derived.Test.YtibkjjklfhfipacGreatDoorNDa
namespace Go.Lf
open Go.RowKit Go.OB
structure gK where
 Key:Str
 Hidden:Bool
 Flights:Int
 Events:List Int
 deriving DecidableEq
def bP:Rp gK:=Rp.iso (Rp.pair Rp.str (Rp.pair Rp.bool (Rp.pair (Rp.int .i64) (Rp.sl (Rp.int .i64))))) λx=>(x.Key,x.Hidden,x.Flights,x.Events)
theorem jI {F:Nat->Prop}{w:World}{cs:List Value}{x:gK}(h:bP.rd F w cs x): ∃v1,cs=[.string (bs x.Key),.bool x.Hidden,.int .i64 x.Flights,v1]/\SlF (Rp.int .i64) F w v1 x.Events:=by
 obtain⟨_,_,rfl,rfl,⟨_,_,rfl,rfl,⟨_,_,rfl,rfl,⟨v3,rfl,a⟩⟩⟩⟩:=h;exact⟨v3,rfl,a⟩
theorem aIw {F:Nat->Prop}{w:World}{x:gK}{v0:Value}(a:SlF (Rp.int .i64) F w v0 x.Events):bP.rd F w [.string (bs x.Key),.bool x.Hidden,.int .i64 x.Flights,v0] x:=⟨[_],_,rfl,rfl,⟨[_],_,rfl,rfl,⟨[_],_,rfl,rfl,⟨_,rfl,a⟩⟩⟩⟩

def tY:Rt gK:=Rt.iso (Rt.pair (Rt.of Rp.str) (Rt.pair (Rt.of Rp.bool) (Rt.pair (Rt.of (Rp.int .i64)) (Rt.row (Rt.of (Rp.int .i64)) 3 [])))) λx=>(x.Key,x.Hidden,x.Flights,x.Events)
theorem wG {cs:List Value}{e:List Nat}{x:gK}{w c:World}{O S:List Nat}{l:List Th}(H:Hd O c w S l)(i:Nat)(hi:l[i]? =some (.tr tY cs e x)): ∃v0 a,cs=[.string (bs x.Key),.bool x.Hidden,.int .i64 x.Flights,v0]/\Hd O c w S (rest [i] l++[.tr (Rt.row (Rt.of (Rp.int .i64)) 3 []) [v0] a x.Events]):=by
 obtain⟨_,_,_,_,rfl,rfl,⟨rfl,rfl⟩,⟨_,_,_,_,rfl,rfl,⟨rfl,rfl⟩,⟨_,_,_,a,rfl,rfl,⟨rfl,rfl⟩,⟨v0,b,c0,rfl,f,h,j⟩⟩⟩⟩:=H.V hi

 refine⟨v0,a,rfl,H.split i hi _ (by simp [bks,Th.blocks]) λ_ d=>?_⟩;simp only [List.mem_cons,List.not_mem_nil,or_false]at d;rcases d with rfl
 ·exact⟨v0,b,c0,rfl,f,h,j⟩
theorem xO {x:gK}{w a:World}{O S:List Nat}{l:List Th}{v0:Value}{b:List Nat}(H:Hd O a w S l)(i0:Nat)(g0:l[i0]? =some (.tr (Rt.row (Rt.of (Rp.int .i64)) 3 []) [v0] b x.Events)): ∃c,Hd O a w S (rest [i0] l++[.tr tY [.string (bs x.Key),.bool x.Hidden,.int .i64 x.Flights,v0] c x]):=by
 have d:=H.V g0;exact⟨[]++([]++([]++(b))),H.unite [i0] (by simp) _ (by simp [Go.Lf.pick,bks,Th.blocks,g0]) ⟨[_],_,[],_,rfl,rfl,⟨rfl,rfl⟩,⟨[_],_,[],_,rfl,rfl,⟨rfl,rfl⟩,⟨[_],_,[],_,rfl,rfl,⟨rfl,rfl⟩,d⟩⟩⟩⟩
theorem aMi:tY.Fr bP:=fr_iso (aUu bAa (aUu bAa (aUu bAa (bDi bAa))))

end Go.Lf
