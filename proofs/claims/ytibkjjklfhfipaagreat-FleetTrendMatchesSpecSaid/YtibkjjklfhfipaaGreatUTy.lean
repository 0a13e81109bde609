/- Laws that the claim stands on; no condition beyond those stated. -/
import Derived.Test.YtibkjjklfhfipaaGreatNDa
namespace Go.Lf
open Go.RowKit Go.OB
structure fA where
 At:Int
 N:Int
 Mark:Int
 deriving DecidableEq
def eG:Rp fA:=Rp.iso (Rp.pair (Rp.int .i64) (Rp.pair (Rp.int .i64) (Rp.int .i64))) λx=>(x.At,x.N,x.Mark)
theorem xQ {F:Nat->Prop}{w:World}{cs:List Value}{x:fA}(h:eG.rd F w cs x):cs=[.int .i64 x.At,.int .i64 x.N,.int .i64 x.Mark]:=by
 obtain⟨_,_,rfl,rfl,⟨_,_,rfl,rfl,rfl⟩⟩:=h;exact rfl
theorem aMy {F:Nat->Prop}{w:World}{x:fA}:eG.rd F w [.int .i64 x.At,.int .i64 x.N,.int .i64 x.Mark] x:=⟨[_],_,rfl,rfl,⟨[_],_,rfl,rfl,rfl⟩⟩
structure Series where
 Den:Int
 Samples:List fA
 deriving DecidableEq
def bDk:Rp Series:=Rp.iso (Rp.pair (Rp.int .i64) (Rp.sl eG)) λx=>(x.Den,x.Samples)
structure Track where
 Name:Str
 Series:Series
 Long:Int
 deriving DecidableEq
def eX:Rp Track:=Rp.iso (Rp.pair Rp.str (Rp.pair bDk (Rp.int .i64))) λx=>(x.Name,x.Series,x.Long)
theorem xK {F:Nat->Prop}{w:World}{cs:List Value}{x:Track}(h:eX.rd F w cs x): ∃a,cs=[.string (bs x.Name),.int .i64 x.Series.Den,a,.int .i64 x.Long]/\SlF eG F w a x.Series.Samples:=by
 obtain⟨_,_,rfl,rfl,⟨_,_,rfl,⟨_,_,rfl,rfl,⟨b,rfl,c⟩⟩,rfl⟩⟩:=h;exact⟨b,rfl,c⟩
theorem uS {F:Nat->Prop}{w:World}{x:Track}{v0:Value}(a:SlF eG F w v0 x.Series.Samples):eX.rd F w [.string (bs x.Name),.int .i64 x.Series.Den,v0,.int .i64 x.Long] x:=⟨[_],_,rfl,rfl,⟨[_,_],_,rfl,⟨[_],_,rfl,rfl,⟨_,rfl,a⟩⟩,rfl⟩⟩
structure Flight where
 Tail:Str
 Route:Str
 Day:Int
 From:Int
 To:Int
 Tracks:List Track
 deriving DecidableEq
def kU:Rp Flight:=Rp.iso (Rp.pair Rp.str (Rp.pair Rp.str (Rp.pair (Rp.int .i64) (Rp.pair (Rp.int .i64) (Rp.pair (Rp.int .i64) (Rp.sl eX)))))) λx=>(x.Tail,x.Route,x.Day,x.From,x.To,x.Tracks)
theorem rD {F:Nat->Prop}{w:World}{cs:List Value}{x:Flight}(h:kU.rd F w cs x): ∃a,cs=[.string (bs x.Tail),.string (bs x.Route),.int .i64 x.Day,.int .i64 x.From,.int .i64 x.To,a]/\SlF eX F w a x.Tracks:=by
 obtain⟨_,_,rfl,rfl,⟨_,_,rfl,rfl,⟨_,_,rfl,rfl,⟨_,_,rfl,rfl,⟨_,_,rfl,rfl,⟨v5,rfl,b⟩⟩⟩⟩⟩⟩:=h;exact⟨v5,rfl,b⟩
theorem aYv {F:Nat->Prop}{w:World}{x:Flight}{v0:Value}(a:SlF eX F w v0 x.Tracks):kU.rd F w [.string (bs x.Tail),.string (bs x.Route),.int .i64 x.Day,.int .i64 x.From,.int .i64 x.To,v0] x:=⟨[_],_,rfl,rfl,⟨[_],_,rfl,rfl,⟨[_],_,rfl,rfl,⟨[_],_,rfl,rfl,⟨[_],_,rfl,rfl,⟨_,rfl,a⟩⟩⟩⟩⟩⟩
structure dW where
 Track:Str
 N:Int
 deriving DecidableEq
def jS:Rp dW:=Rp.iso (Rp.pair Rp.str (Rp.int .i64)) λx=>(x.Track,x.N)
theorem mX {F:Nat->Prop}{w:World}{cs:List Value}{x:dW}(h:jS.rd F w cs x):cs=[.string (bs x.Track),.int .i64 x.N]:=by
 obtain⟨_,_,rfl,rfl,rfl⟩:=h;exact rfl
structure Mask where
 Tails:Bool
 Days:Int
 Hide:List Str
 Grains:List dW
 Least:Int
 deriving DecidableEq
def rMask:Rp Mask:=Rp.iso (Rp.pair Rp.bool (Rp.pair (Rp.int .i64) (Rp.pair (Rp.sl Rp.str) (Rp.pair (Rp.sl jS) (Rp.int .i64))))) λx=>(x.Tails,x.Days,x.Hide,x.Grains,x.Least)
theorem aYg {F:Nat->Prop}{w:World}{cs:List Value}{x:Mask}(h:rMask.rd F w cs x): ∃a b,cs=[.bool x.Tails,.int .i64 x.Days,a,b,.int .i64 x.Least]/\SlF Rp.str F w a x.Hide/\SlF jS F w b x.Grains:=by
 obtain⟨_,_,rfl,rfl,⟨_,_,rfl,rfl,⟨_,_,rfl,⟨v2,rfl,c⟩,⟨_,_,rfl,⟨v3,rfl,d⟩,rfl⟩⟩⟩⟩:=h;exact⟨v2,v3,rfl,c,d⟩
structure Ratio where
 Num:Int
 Den:Int
 deriving DecidableEq
def aRs:Fl Ratio:=Fl.iso (Fl.pair (Fl.int .i64) (Fl.int .i64)) λx=>(x.Num,x.Den)
structure cZ where
 name:Bool
 other:Bool
 op:Bool
 n:Bool
 frames:Bool
 least:Int
 most:Int
 deriving DecidableEq
structure fZ where
 tracks:List (Str×Int)
 dens:List Int
 phases:List Str
 rules:List (Str×Int)
structure gU where
 told:List gZ
 possible:List Bool
 rules:List Int
 deriving DecidableEq
structure fH where
 Rule:Int
 From:Int
 To:Int
 Begins:Bool
 Ends:Bool
 deriving DecidableEq
def pK:Rp fH:=Rp.iso (Rp.pair (Rp.int .i64) (Rp.pair (Rp.int .i64) (Rp.pair (Rp.int .i64) (Rp.pair Rp.bool Rp.bool)))) λx=>(x.Rule,x.From,x.To,x.Begins,x.Ends)
theorem uM {F:Nat->Prop}{w:World}{cs:List Value}{x:fH}(h:pK.rd F w cs x):cs=[.int .i64 x.Rule,.int .i64 x.From,.int .i64 x.To,.bool x.Begins,.bool x.Ends]:=by
 obtain⟨_,_,rfl,rfl,⟨_,_,rfl,rfl,⟨_,_,rfl,rfl,⟨_,_,rfl,rfl,rfl⟩⟩⟩⟩:=h;exact rfl
theorem vM {F:Nat->Prop}{w:World}{x:fH}:pK.rd F w [.int .i64 x.Rule,.int .i64 x.From,.int .i64 x.To,.bool x.Begins,.bool x.Ends] x:=⟨[_],_,rfl,rfl,⟨[_],_,rfl,rfl,⟨[_],_,rfl,rfl,⟨[_],_,rfl,rfl,rfl⟩⟩⟩⟩
structure dB where
 neg:Bool
 high:Int
 low:Int
 deriving DecidableEq
structure fM where
 Key:Str
 Hidden:Bool
 Flights:Int
 Events:List Int
 deriving DecidableEq
def kY:Rp fM:=Rp.iso (Rp.pair Rp.str (Rp.pair Rp.bool (Rp.pair (Rp.int .i64) (Rp.sl (Rp.int .i64))))) λx=>(x.Key,x.Hidden,x.Flights,x.Events)
theorem nH {F:Nat->Prop}{w:World}{cs:List Value}{x:fM}(h:kY.rd F w cs x): ∃a,cs=[.string (bs x.Key),.bool x.Hidden,.int .i64 x.Flights,a]/\SlF (Rp.int .i64) F w a x.Events:=by
 obtain⟨_,_,rfl,rfl,⟨_,_,rfl,rfl,⟨_,_,rfl,rfl,⟨v3,rfl,b⟩⟩⟩⟩:=h;exact⟨v3,rfl,b⟩
theorem aGg {F:Nat->Prop}{w:World}{x:fM}{v0:Value}(a:SlF (Rp.int .i64) F w v0 x.Events):kY.rd F w [.string (bs x.Key),.bool x.Hidden,.int .i64 x.Flights,v0] x:=⟨[_],_,rfl,rfl,⟨[_],_,rfl,rfl,⟨[_],_,rfl,rfl,⟨_,rfl,a⟩⟩⟩⟩
end Go.Lf
