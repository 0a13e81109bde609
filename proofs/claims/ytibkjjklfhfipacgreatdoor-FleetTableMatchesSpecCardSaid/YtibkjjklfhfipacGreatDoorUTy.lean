/- Laws that the claim stands on; no condition beyond those stated. -/
import Derived.Test.YtibkjjklfhfipacGreatDoorFrTy
namespace Go.Lf
open Go.RowKit Go.OB
structure fD where
 At:Int
 N:Int
 Mark:Int
 deriving DecidableEq
def eH:Rp fD:=Rp.iso (Rp.pair (Rp.int .i64) (Rp.pair (Rp.int .i64) (Rp.int .i64))) λx=>(x.At,x.N,x.Mark)
theorem wE {F:Nat->Prop}{w:World}{cs:List Value}{x:fD}(h:eH.rd F w cs x):cs=[.int .i64 x.At,.int .i64 x.N,.int .i64 x.Mark]:=by
 obtain⟨_,_,rfl,rfl,⟨_,_,rfl,rfl,rfl⟩⟩:=h;exact rfl
theorem aRd {F:Nat->Prop}{w:World}{x:fD}:eH.rd F w [.int .i64 x.At,.int .i64 x.N,.int .i64 x.Mark] x:=⟨[_],_,rfl,rfl,⟨[_],_,rfl,rfl,rfl⟩⟩
structure Series where
 Den:Int
 Samples:List fD
 deriving DecidableEq
def bHh:Rp Series:=Rp.iso (Rp.pair (Rp.int .i64) (Rp.sl eH)) λx=>(x.Den,x.Samples)
structure Track where
 Name:Str
 Series:Series
 Long:Int
 deriving DecidableEq
def dE:Rp Track:=Rp.iso (Rp.pair Rp.str (Rp.pair bHh (Rp.int .i64))) λx=>(x.Name,x.Series,x.Long)
theorem xW {F:Nat->Prop}{w:World}{cs:List Value}{x:Track}(h:dE.rd F w cs x): ∃v85,cs=[.string (bs x.Name),.int .i64 x.Series.Den,v85,.int .i64 x.Long]/\SlF eH F w v85 x.Series.Samples:=by
 obtain⟨_,_,rfl,rfl,⟨_,_,rfl,⟨_,_,rfl,rfl,⟨a,rfl,b⟩⟩,rfl⟩⟩:=h;exact⟨a,rfl,b⟩
theorem vY {F:Nat->Prop}{w:World}{x:Track}{v0:Value}(a:SlF eH F w v0 x.Series.Samples):dE.rd F w [.string (bs x.Name),.int .i64 x.Series.Den,v0,.int .i64 x.Long] x:=⟨[_],_,rfl,rfl,⟨[_,_],_,rfl,⟨[_],_,rfl,rfl,⟨_,rfl,a⟩⟩,rfl⟩⟩
structure Flight where
 Tail:Str
 Route:Str
 Day:Int
 From:Int
 To:Int
 Tracks:List Track
 deriving DecidableEq
def sN:Rp Flight:=Rp.iso (Rp.pair Rp.str (Rp.pair Rp.str (Rp.pair (Rp.int .i64) (Rp.pair (Rp.int .i64) (Rp.pair (Rp.int .i64) (Rp.sl dE)))))) λx=>(x.Tail,x.Route,x.Day,x.From,x.To,x.Tracks)
theorem vV {F:Nat->Prop}{w:World}{cs:List Value}{x:Flight}(h:sN.rd F w cs x): ∃a,cs=[.string (bs x.Tail),.string (bs x.Route),.int .i64 x.Day,.int .i64 x.From,.int .i64 x.To,a]/\SlF dE F w a x.Tracks:=by
 obtain⟨_,_,rfl,rfl,⟨_,_,rfl,rfl,⟨_,_,rfl,rfl,⟨_,_,rfl,rfl,⟨_,_,rfl,rfl,⟨v5,rfl,b⟩⟩⟩⟩⟩⟩:=h;exact⟨v5,rfl,b⟩
structure dS where
 Track:Str
 N:Int
 deriving DecidableEq
def mW:Rp dS:=Rp.iso (Rp.pair Rp.str (Rp.int .i64)) λx=>(x.Track,x.N)
theorem nN {F:Nat->Prop}{w:World}{cs:List Value}{x:dS}(h:mW.rd F w cs x):cs=[.string (bs x.Track),.int .i64 x.N]:=by
 obtain⟨_,_,rfl,rfl,rfl⟩:=h;exact rfl
structure Mask where
 Tails:Bool
 Days:Int
 Hide:List Str
 Grains:List dS
 Least:Int
 deriving DecidableEq
def rMask:Rp Mask:=Rp.iso (Rp.pair Rp.bool (Rp.pair (Rp.int .i64) (Rp.pair (Rp.sl Rp.str) (Rp.pair (Rp.sl mW) (Rp.int .i64))))) λx=>(x.Tails,x.Days,x.Hide,x.Grains,x.Least)
theorem bDw {F:Nat->Prop}{w:World}{cs:List Value}{x:Mask}(h:rMask.rd F w cs x): ∃v87 a,cs=[.bool x.Tails,.int .i64 x.Days,v87,a,.int .i64 x.Least]/\SlF Rp.str F w v87 x.Hide/\SlF mW F w a x.Grains:=by
 obtain⟨_,_,rfl,rfl,⟨_,_,rfl,rfl,⟨_,_,rfl,⟨v2,rfl,b⟩,⟨_,_,rfl,⟨v3,rfl,c⟩,rfl⟩⟩⟩⟩:=h;exact⟨v2,v3,rfl,b,c⟩
structure bD where
 name:Bool
 other:Bool
 op:Bool
 n:Bool
 frames:Bool
 least:Int
 most:Int
 deriving DecidableEq
structure eF where
 tracks:List (Str×Int)
 dens:List Int
 phases:List Str
 rules:List (Str×Int)
structure gU where
 told:List fB
 possible:List Bool
 rules:List Int
 deriving DecidableEq
structure gW where
 out:List Int
 deriving DecidableEq
def nC:Rp gW:=Rp.iso (Rp.sl (Rp.int .u8)) λx=>(x.out)
theorem aCh {F:Nat->Prop}{w:World}{cs:List Value}{x:gW}(h:nC.rd F w cs x): ∃a,cs=[a]/\SlF (Rp.int .u8) F w a x.out:=by
 obtain⟨v0,rfl,b⟩:=h;exact⟨v0,rfl,b⟩
theorem aEq {F:Nat->Prop}{w:World}{x:gW}{v0:Value}(a:SlF (Rp.int .u8) F w v0 x.out):nC.rd F w [v0] x:=⟨_,rfl,a⟩
structure fM where
 Rule:Int
 From:Int
 To:Int
 Begins:Bool
 Ends:Bool
 deriving DecidableEq
def qI:Rp fM:=Rp.iso (Rp.pair (Rp.int .i64) (Rp.pair (Rp.int .i64) (Rp.pair (Rp.int .i64) (Rp.pair Rp.bool Rp.bool)))) λx=>(x.Rule,x.From,x.To,x.Begins,x.Ends)
theorem vN {F:Nat->Prop}{w:World}{cs:List Value}{x:fM}(h:qI.rd F w cs x):cs=[.int .i64 x.Rule,.int .i64 x.From,.int .i64 x.To,.bool x.Begins,.bool x.Ends]:=by
 obtain⟨_,_,rfl,rfl,⟨_,_,rfl,rfl,⟨_,_,rfl,rfl,⟨_,_,rfl,rfl,rfl⟩⟩⟩⟩:=h;exact rfl
theorem aAe {F:Nat->Prop}{w:World}{x:fM}:qI.rd F w [.int .i64 x.Rule,.int .i64 x.From,.int .i64 x.To,.bool x.Begins,.bool x.Ends] x:=⟨[_],_,rfl,rfl,⟨[_],_,rfl,rfl,⟨[_],_,rfl,rfl,⟨[_],_,rfl,rfl,rfl⟩⟩⟩⟩
end Go.Lf
