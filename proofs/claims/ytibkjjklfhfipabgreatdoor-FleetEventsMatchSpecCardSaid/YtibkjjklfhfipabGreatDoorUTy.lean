/- Laws that the claim stands on; no condition beyond those stated. -/
import Derived.Test.YtibkjjklfhfipabGreatDoorNDa
namespace Go.Lf
open Go.RowKit Go.OB
structure eH where
 At:Int
 N:Int
 Mark:Int
 deriving DecidableEq
def dQ:Rp eH:=Rp.iso (Rp.pair (Rp.int .i64) (Rp.pair (Rp.int .i64) (Rp.int .i64))) λx=>(x.At,x.N,x.Mark)
theorem dY {F:Nat->Prop}{w:World}{cs:List Value}{x:eH}(h:dQ.rd F w cs x):cs=[.int .i64 x.At,.int .i64 x.N,.int .i64 x.Mark]:=by
 obtain⟨_,_,rfl,rfl,⟨_,_,rfl,rfl,rfl⟩⟩:=h;exact rfl
structure Series where
 Den:Int
 Samples:List eH
 deriving DecidableEq
def bAh:Rp Series:=Rp.iso (Rp.pair (Rp.int .i64) (Rp.sl dQ)) λx=>(x.Den,x.Samples)
structure gW where
 Name:Str
 Series:Series
 Long:Int
 deriving DecidableEq
def aN:Rp gW:=Rp.iso (Rp.pair Rp.str (Rp.pair bAh (Rp.int .i64))) λx=>(x.Name,x.Series,x.Long)
theorem xQ {F:Nat->Prop}{w:World}{cs:List Value}{x:gW}(h:aN.rd F w cs x): ∃a,cs=[.string (bs x.Name),.int .i64 x.Series.Den,a,.int .i64 x.Long]/\SlF dQ F w a x.Series.Samples:=by
 obtain⟨_,_,rfl,rfl,⟨_,_,rfl,⟨_,_,rfl,rfl,⟨b,rfl,c⟩⟩,rfl⟩⟩:=h;exact⟨b,rfl,c⟩
theorem aCm {F:Nat->Prop}{w:World}{x:gW}{v0:Value}(a:SlF dQ F w v0 x.Series.Samples):aN.rd F w [.string (bs x.Name),.int .i64 x.Series.Den,v0,.int .i64 x.Long] x:=⟨[_],_,rfl,rfl,⟨[_,_],_,rfl,⟨[_],_,rfl,rfl,⟨_,rfl,a⟩⟩,rfl⟩⟩
structure Flight where
 Tail:Str
 Route:Str
 Day:Int
 From:Int
 To:Int
 Tracks:List gW
 deriving DecidableEq
def aZf:Rp Flight:=Rp.iso (Rp.pair Rp.str (Rp.pair Rp.str (Rp.pair (Rp.int .i64) (Rp.pair (Rp.int .i64) (Rp.pair (Rp.int .i64) (Rp.sl aN)))))) λx=>(x.Tail,x.Route,x.Day,x.From,x.To,x.Tracks)
theorem aPj {F:Nat->Prop}{w:World}{cs:List Value}{x:Flight}(h:aZf.rd F w cs x): ∃v130,cs=[.string (bs x.Tail),.string (bs x.Route),.int .i64 x.Day,.int .i64 x.From,.int .i64 x.To,v130]/\SlF aN F w v130 x.Tracks:=by
 obtain⟨_,_,rfl,rfl,⟨_,_,rfl,rfl,⟨_,_,rfl,rfl,⟨_,_,rfl,rfl,⟨_,_,rfl,rfl,⟨v5,rfl,a⟩⟩⟩⟩⟩⟩:=h;exact⟨v5,rfl,a⟩
structure dZ where
 name:Bool
 other:Bool
 op:Bool
 n:Bool
 frames:Bool
 least:Int
 most:Int
 deriving DecidableEq
structure eG where
 tracks:List (Str×Int)
 dens:List Int
 phases:List Str
 rules:List (Str×Int)
structure gK where
 told:List fB
 possible:List Bool
 rules:List Int
 deriving DecidableEq
structure gX where
 out:List Int
 deriving DecidableEq
def jR:Rp gX:=Rp.iso (Rp.sl (Rp.int .u8)) λx=>(x.out)
theorem aAh {F:Nat->Prop}{w:World}{cs:List Value}{x:gX}(h:jR.rd F w cs x): ∃a,cs=[a]/\SlF (Rp.int .u8) F w a x.out:=by
 obtain⟨v0,rfl,b⟩:=h;exact⟨v0,rfl,b⟩
theorem aBa {F:Nat->Prop}{w:World}{x:gX}{v0:Value}(a:SlF (Rp.int .u8) F w v0 x.out):jR.rd F w [v0] x:=⟨_,rfl,a⟩
structure fJ where
 Rule:Int
 From:Int
 To:Int
 Begins:Bool
 Ends:Bool
 deriving DecidableEq
def nX:Rp fJ:=Rp.iso (Rp.pair (Rp.int .i64) (Rp.pair (Rp.int .i64) (Rp.pair (Rp.int .i64) (Rp.pair Rp.bool Rp.bool)))) λx=>(x.Rule,x.From,x.To,x.Begins,x.Ends)
theorem uA {F:Nat->Prop}{w:World}{cs:List Value}{x:fJ}(h:nX.rd F w cs x):cs=[.int .i64 x.Rule,.int .i64 x.From,.int .i64 x.To,.bool x.Begins,.bool x.Ends]:=by
 obtain⟨_,_,rfl,rfl,⟨_,_,rfl,rfl,⟨_,_,rfl,rfl,⟨_,_,rfl,rfl,rfl⟩⟩⟩⟩:=h;exact rfl
theorem uN {F:Nat->Prop}{w:World}{x:fJ}:nX.rd F w [.int .i64 x.Rule,.int .i64 x.From,.int .i64 x.To,.bool x.Begins,.bool x.Ends] x:=⟨[_],_,rfl,rfl,⟨[_],_,rfl,rfl,⟨[_],_,rfl,rfl,⟨[_],_,rfl,rfl,rfl⟩⟩⟩⟩
structure fM where
 Key:Str
 Hidden:Bool
 Flights:Int
 Events:List Int
 deriving DecidableEq
def kU:Rp fM:=Rp.iso (Rp.pair Rp.str (Rp.pair Rp.bool (Rp.pair (Rp.int .i64) (Rp.sl (Rp.int .i64))))) λx=>(x.Key,x.Hidden,x.Flights,x.Events)
theorem mF {F:Nat->Prop}{w:World}{cs:List Value}{x:fM}(h:kU.rd F w cs x): ∃a,cs=[.string (bs x.Key),.bool x.Hidden,.int .i64 x.Flights,a]/\SlF (Rp.int .i64) F w a x.Events:=by
 obtain⟨_,_,rfl,rfl,⟨_,_,rfl,rfl,⟨_,_,rfl,rfl,⟨v3,rfl,b⟩⟩⟩⟩:=h;exact⟨v3,rfl,b⟩
theorem aEo {F:Nat->Prop}{w:World}{x:fM}{v0:Value}(a:SlF (Rp.int .i64) F w v0 x.Events):kU.rd F w [.string (bs x.Key),.bool x.Hidden,.int .i64 x.Flights,v0] x:=⟨[_],_,rfl,rfl,⟨[_],_,rfl,rfl,⟨[_],_,rfl,rfl,⟨_,rfl,a⟩⟩⟩⟩
end Go.Lf
