/- Laws that the claim stands on; no condition beyond those stated. -/
import Derived.Test.YtbjofgmdhbiekaaGreatDoorXVp
namespace Go.Lf
open Go.RowKit Go.OB
structure gQ where
 kind:Int
 at_:Int
 n:Int
 text:Str
 deriving DecidableEq
def aUr:Rp gQ:=Rp.iso (Rp.pair (Rp.int .i64) (Rp.pair (Rp.int .i64) (Rp.pair (Rp.int .i64) Rp.str))) λx=>(x.kind,x.at_,x.n,x.text)
structure Cond where
 Kind:Int
 Name:Str
 Other:Str
 Op:Int
 N:Int
 Frames:Int
 Kids:List Cond
def aAx:Nat->Rp Cond
 |0=>Rp.bot 7
 |n+1=>Rp.iso (Rp.pair (Rp.int .i64) (Rp.pair Rp.str (Rp.pair Rp.str (Rp.pair (Rp.int .i64) (Rp.pair (Rp.int .i64) (Rp.pair (Rp.int .i64) (Rp.sl (aAx n)))))))) λx=>(x.Kind,x.Name,x.Other,x.Op,x.N,x.Frames,x.Kids)
theorem aMz: ∀n,(aAx n).sz=7
 |0=>rfl
 |_+1=>rfl
theorem aHn {F:Nat->Prop}{w:World}{n:Nat}{cs:List Value}{x:Cond}(h:(aAx (n+1)).rd F w cs x): ∃v0,cs=[.int .i64 x.Kind,.string (bs x.Name),.string (bs x.Other),.int .i64 x.Op,.int .i64 x.N,.int .i64 x.Frames,v0]/\SlF (aAx n) F w v0 x.Kids:=by
 obtain⟨_,_,rfl,rfl,⟨_,_,rfl,rfl,⟨_,_,rfl,rfl,⟨_,_,rfl,rfl,⟨_,_,rfl,rfl,⟨_,_,rfl,rfl,⟨v0,rfl,a⟩⟩⟩⟩⟩⟩⟩:=h;exact⟨v0,rfl,a⟩
theorem aOm {F:Nat->Prop}{w:World}{n:Nat}{x:Cond}{v0:Value}(a:SlF (aAx n) F w v0 x.Kids):(aAx (n+1)).rd F w [.int .i64 x.Kind,.string (bs x.Name),.string (bs x.Other),.int .i64 x.Op,.int .i64 x.N,.int .i64 x.Frames,v0] x:=⟨[_],_,rfl,rfl,⟨[_],_,rfl,rfl,⟨[_],_,rfl,rfl,⟨[_],_,rfl,rfl,⟨[_],_,rfl,rfl,⟨[_],_,rfl,rfl,⟨_,rfl,a⟩⟩⟩⟩⟩⟩⟩
theorem aNh: ∀n,(aAx n).le (aAx (n+1))
 |0=>⟨rfl,λ_ _ _ _ h=>h.elim⟩
 |n+1=>⟨rfl,λF w cs x h=>by
  obtain⟨v0,rfl,a⟩:=aHn h;exact aOm (slf_le (aNh n) a)⟩
def dD:Rp Cond:=Rp.lim aAx 7 aMz
theorem kF {F:Nat->Prop}{w:World}{cs:List Value}{x:Cond}(h:dD.rd F w cs x): ∃v0,cs=[.int .i64 x.Kind,.string (bs x.Name),.string (bs x.Other),.int .i64 x.Op,.int .i64 x.N,.int .i64 x.Frames,v0]/\SlF (dD) F w v0 x.Kids:=by
 obtain⟨n,h⟩:=h
 cases n with
 |zero=>exact h.elim
 |succ n=>
  obtain⟨v0,rfl,a⟩:=aHn h;exact⟨v0,rfl,slf_le (le_lim (h:=aMz) n) a⟩
theorem uJ {F:Nat->Prop}{w:World}{x:Cond}{v0:Value}(a:SlF (dD) F w v0 x.Kids):dD.rd F w [.int .i64 x.Kind,.string (bs x.Name),.string (bs x.Other),.int .i64 x.Op,.int .i64 x.N,.int .i64 x.Frames,v0] x:=by
 obtain⟨n,a⟩:=slf_lim aNh a;exact⟨n+1,aOm a⟩
structure jT where
 From:Str
 To:Str
 When:Cond
def fM:Rp jT:=Rp.iso (Rp.pair Rp.str (Rp.pair Rp.str dD)) λx=>(x.From,x.To,x.When)
theorem aHb {F:Nat->Prop}{w:World}{cs:List Value}{x:jT}(h:fM.rd F w cs x): ∃a,cs=[.string (bs x.From),.string (bs x.To),.int .i64 x.When.Kind,.string (bs x.When.Name),.string (bs x.When.Other),.int .i64 x.When.Op,.int .i64 x.When.N,.int .i64 x.When.Frames,a]/\SlF dD F w a x.When.Kids:=by
 obtain⟨_,_,rfl,rfl,⟨_,_,rfl,rfl,d⟩⟩:=h;obtain⟨b,rfl,c⟩:=kF d;exact⟨b,rfl,c⟩
theorem rMoveT_mk {F:Nat->Prop}{w:World}{x:jT}{v0:Value}(a:SlF dD F w v0 x.When.Kids):fM.rd F w [.string (bs x.From),.string (bs x.To),.int .i64 x.When.Kind,.string (bs x.When.Name),.string (bs x.When.Other),.int .i64 x.When.Op,.int .i64 x.When.N,.int .i64 x.When.Frames,v0] x:=⟨[_],_,rfl,rfl,⟨[_],_,rfl,rfl,(uJ a)⟩⟩
structure jM where
 Name:Str
 When:Cond
def fU:Rp jM:=Rp.iso (Rp.pair Rp.str dD) λx=>(x.Name,x.When)
theorem jZ {F:Nat->Prop}{w:World}{cs:List Value}{x:jM}(h:fU.rd F w cs x): ∃a,cs=[.string (bs x.Name),.int .i64 x.When.Kind,.string (bs x.When.Name),.string (bs x.When.Other),.int .i64 x.When.Op,.int .i64 x.When.N,.int .i64 x.When.Frames,a]/\SlF dD F w a x.When.Kids:=by
 obtain⟨_,_,rfl,rfl,d⟩:=h;obtain⟨b,rfl,c⟩:=kF d;exact⟨b,rfl,c⟩
theorem aTc {F:Nat->Prop}{w:World}{x:jM}{v0:Value}(a:SlF dD F w v0 x.When.Kids):fU.rd F w [.string (bs x.Name),.int .i64 x.When.Kind,.string (bs x.When.Name),.string (bs x.When.Other),.int .i64 x.When.Op,.int .i64 x.When.N,.int .i64 x.When.Frames,v0] x:=⟨[_],_,rfl,rfl,(uJ a)⟩
structure Rules where
 Phases:List Str
 Moves:List jT
 Rules:List jM
def rRules:Rp Rules:=Rp.iso (Rp.pair (Rp.sl Rp.str) (Rp.pair (Rp.sl fM) (Rp.sl fU))) λx=>(x.Phases,x.Moves,x.Rules)
structure gI where
 text:Str
 at_:Int
 now:gQ
 r:Rules
def fZ:Rp gI:=Rp.iso (Rp.pair Rp.str (Rp.pair (Rp.int .i64) (Rp.pair aUr rRules))) λx=>(x.text,x.at_,x.now,x.r)
theorem kD {F:Nat->Prop}{w:World}{cs:List Value}{x:gI}(h:fZ.rd F w cs x): ∃a b c,cs=[.string (bs x.text),.int .i64 x.at_,.int .i64 x.now.kind,.int .i64 x.now.at_,.int .i64 x.now.n,.string (bs x.now.text),a,b,c]/\SlF Rp.str F w a x.r.Phases/\SlF fM F w b x.r.Moves/\SlF fU F w c x.r.Rules:=by
 obtain⟨_,_,rfl,rfl,⟨_,_,rfl,rfl,⟨_,_,rfl,⟨_,_,rfl,rfl,⟨_,_,rfl,rfl,⟨_,_,rfl,rfl,rfl⟩⟩⟩,⟨_,_,rfl,⟨d,rfl,e⟩,⟨_,_,rfl,⟨f,rfl,g⟩,⟨i,rfl,j⟩⟩⟩⟩⟩⟩:=h;exact⟨d,f,i,rfl,e,g,j⟩
theorem xH {F:Nat->Prop}{w:World}{x:gI}{v0 v1 v2:Value}(a:SlF Rp.str F w v0 x.r.Phases)(h1:SlF fM F w v1 x.r.Moves)(b:SlF fU F w v2 x.r.Rules):fZ.rd F w [.string (bs x.text),.int .i64 x.at_,.int .i64 x.now.kind,.int .i64 x.now.at_,.int .i64 x.now.n,.string (bs x.now.text),v0,v1,v2] x:=⟨[_],_,rfl,rfl,⟨[_],_,rfl,rfl,⟨[_,_,_,_],_,rfl,⟨[_],_,rfl,rfl,⟨[_],_,rfl,rfl,⟨[_],_,rfl,rfl,rfl⟩⟩⟩,⟨[_],_,rfl,⟨_,rfl,a⟩,⟨[_],_,rfl,⟨_,rfl,h1⟩,⟨_,rfl,b⟩⟩⟩⟩⟩⟩
structure Part where
 Frame:Int
 Word:Int
 Low:Int
 Bits:Int
 deriving DecidableEq
def rW:Rp Part:=Rp.iso (Rp.pair (Rp.int .i64) (Rp.pair (Rp.int .i64) (Rp.pair (Rp.int .i64) (Rp.int .i64)))) λx=>(x.Frame,x.Word,x.Low,x.Bits)
theorem uH {F:Nat->Prop}{w:World}{cs:List Value}{x:Part}(h:rW.rd F w cs x):cs=[.int .i64 x.Frame,.int .i64 x.Word,.int .i64 x.Low,.int .i64 x.Bits]:=by
 obtain⟨_,_,rfl,rfl,⟨_,_,rfl,rfl,⟨_,_,rfl,rfl,rfl⟩⟩⟩:=h;exact rfl
structure Param where
 Name:Str
 Kind:Int
 Parts:List Part
 First:Int
 Every:Int
 Times:Int
 Step:Int
 Names:List Str
 deriving DecidableEq
def qW:Rp Param:=Rp.iso (Rp.pair Rp.str (Rp.pair (Rp.int .i64) (Rp.pair (Rp.sl rW) (Rp.pair (Rp.int .i64) (Rp.pair (Rp.int .i64) (Rp.pair (Rp.int .i64) (Rp.pair (Rp.int .i64) (Rp.sl Rp.str)))))))) λx=>(x.Name,x.Kind,x.Parts,x.First,x.Every,x.Times,x.Step,x.Names)
theorem aY {F:Nat->Prop}{w:World}{cs:List Value}{x:Param}(h:qW.rd F w cs x): ∃a b,cs=[.string (bs x.Name),.int .i64 x.Kind,a,.int .i64 x.First,.int .i64 x.Every,.int .i64 x.Times,.int .i64 x.Step,b]/\SlF rW F w a x.Parts/\SlF Rp.str F w b x.Names:=by
 obtain⟨_,_,rfl,rfl,⟨_,_,rfl,rfl,⟨_,_,rfl,⟨v2,rfl,c⟩,⟨_,_,rfl,rfl,⟨_,_,rfl,rfl,⟨_,_,rfl,rfl,⟨_,_,rfl,rfl,⟨d,rfl,e⟩⟩⟩⟩⟩⟩⟩⟩:=h;exact⟨v2,d,rfl,c,e⟩
theorem aCc {F:Nat->Prop}{w:World}{x:Param}{v0 v1:Value}(a:SlF rW F w v0 x.Parts)(h1:SlF Rp.str F w v1 x.Names):qW.rd F w [.string (bs x.Name),.int .i64 x.Kind,v0,.int .i64 x.First,.int .i64 x.Every,.int .i64 x.Times,.int .i64 x.Step,v1] x:=⟨[_],_,rfl,rfl,⟨[_],_,rfl,rfl,⟨[_],_,rfl,⟨_,rfl,a⟩,⟨[_],_,rfl,rfl,⟨[_],_,rfl,rfl,⟨[_],_,rfl,rfl,⟨[_],_,rfl,rfl,⟨_,rfl,h1⟩⟩⟩⟩⟩⟩⟩⟩
structure Map where
 Version:Int
 Params:List Param
 deriving DecidableEq
def rMap:Rp Map:=Rp.iso (Rp.pair (Rp.int .i64) (Rp.sl qW)) λx=>(x.Version,x.Params)
structure Line where
 From:Int
 To:Int
 A:Int
 B:Int
 deriving DecidableEq
def uM:Rp Line:=Rp.iso (Rp.pair (Rp.int .i64) (Rp.pair (Rp.int .i64) (Rp.pair (Rp.int .i64) (Rp.int .i64)))) λx=>(x.From,x.To,x.A,x.B)
theorem aAc {F:Nat->Prop}{w:World}{cs:List Value}{x:Line}(h:uM.rd F w cs x):cs=[.int .i64 x.From,.int .i64 x.To,.int .i64 x.A,.int .i64 x.B]:=by
 obtain⟨_,_,rfl,rfl,⟨_,_,rfl,rfl,⟨_,_,rfl,rfl,rfl⟩⟩⟩:=h;exact rfl
structure fB where
 Den:Int
 Lines:List Line
 Low:Int
 High:Int
 deriving DecidableEq
def dB:Rp fB:=Rp.iso (Rp.pair (Rp.int .i64) (Rp.pair (Rp.sl uM) (Rp.pair (Rp.int .i64) (Rp.int .i64)))) λx=>(x.Den,x.Lines,x.Low,x.High)
theorem uS {F:Nat->Prop}{w:World}{cs:List Value}{x:fB}(h:dB.rd F w cs x): ∃a,cs=[.int .i64 x.Den,a,.int .i64 x.Low,.int .i64 x.High]/\SlF uM F w a x.Lines:=by
 obtain⟨_,_,rfl,rfl,⟨_,_,rfl,⟨v1,rfl,h1⟩,⟨_,_,rfl,rfl,rfl⟩⟩⟩:=h;exact⟨v1,rfl,h1⟩
structure fD where
 Track:Str
 Param:Str
 Meaning:List fB
 Long:Int
 deriving DecidableEq
def rU:Rp fD:=Rp.iso (Rp.pair Rp.str (Rp.pair Rp.str (Rp.pair (Rp.sl dB) (Rp.int .i64)))) λx=>(x.Track,x.Param,x.Meaning,x.Long)
theorem kH {F:Nat->Prop}{w:World}{cs:List Value}{x:fD}(h:rU.rd F w cs x): ∃a,cs=[.string (bs x.Track),.string (bs x.Param),a,.int .i64 x.Long]/\SlF dB F w a x.Meaning:=by
 obtain⟨_,_,rfl,rfl,⟨_,_,rfl,rfl,⟨_,_,rfl,⟨v2,rfl,b⟩,rfl⟩⟩⟩:=h;exact⟨v2,rfl,b⟩
structure gW where
 Number:Int
 Frame:Arr 64 Int
 States:Arr 64 Int
 Sound:Bool
 Copies:Int
 Conflict:Bool
 deriving DecidableEq
def mQ:Rp gW:=Rp.iso (Rp.pair (Rp.int .i64) (Rp.pair (Rp.fl (Fl.arr 64 (Fl.int .u16))) (Rp.pair (Rp.fl (Fl.arr 64 (Fl.int .i64))) (Rp.pair Rp.bool (Rp.pair (Rp.int .i64) Rp.bool))))) λx=>(x.Number,x.Frame,x.States,x.Sound,x.Copies,x.Conflict)
def qM:Fl gW:=Fl.iso (Fl.pair (Fl.int .i64) (Fl.pair (Fl.arr 64 (Fl.int .u16)) (Fl.pair (Fl.arr 64 (Fl.int .i64)) (Fl.pair Fl.bool (Fl.pair (Fl.int .i64) Fl.bool))))) λx=>(x.Number,x.Frame,x.States,x.Sound,x.Copies,x.Conflict)
theorem dF {F:Nat->Prop}{w:World}{cs:List Value}{x:gW}(h:mQ.rd F w cs x):cs=([.int .i64 x.Number]:List Value)++(((Fl.arr 64 (Fl.int .u16)).f x.Frame)++(((Fl.arr 64 (Fl.int .i64)).f x.States)++([.bool x.Sound,.int .i64 x.Copies,.bool x.Conflict]:List Value))):=by
 obtain⟨_,_,rfl,rfl,⟨_,_,rfl,rfl,⟨_,_,rfl,rfl,⟨_,_,rfl,rfl,⟨_,_,rfl,rfl,rfl⟩⟩⟩⟩⟩:=h;exact rfl
theorem rRestT_mk {F:Nat->Prop}{w:World}{x:gW}:mQ.rd F w (([.int .i64 x.Number]:List Value)++(((Fl.arr 64 (Fl.int .u16)).f x.Frame)++(((Fl.arr 64 (Fl.int .i64)).f x.States)++([.bool x.Sound,.int .i64 x.Copies,.bool x.Conflict]:List Value)))) x:=⟨[_],_,rfl,rfl,⟨_,_,rfl,rfl,⟨_,_,rfl,rfl,⟨[_],_,rfl,rfl,⟨[_],_,rfl,rfl,rfl⟩⟩⟩⟩⟩
structure Book where
 Map:Map
 Sources:List fD
 Rests:List gW
 deriving DecidableEq
def rBook:Rp Book:=Rp.iso (Rp.pair rMap (Rp.pair (Rp.sl rU) (Rp.sl mQ))) λx=>(x.Map,x.Sources,x.Rests)
theorem aUx {F:Nat->Prop}{w:World}{cs:List Value}{x:Book}(h:rBook.rd F w cs x): ∃a b c,cs=[.int .i64 x.Map.Version,a,b,c]/\SlF qW F w a x.Map.Params/\SlF rU F w b x.Sources/\SlF mQ F w c x.Rests:=by
 obtain⟨_,_,rfl,⟨_,_,rfl,rfl,⟨d,rfl,e⟩⟩,⟨_,_,rfl,⟨v1,rfl,h1⟩,⟨v2,rfl,f⟩⟩⟩:=h;exact⟨d,v1,v2,rfl,e,h1,f⟩
structure fG where
 Frame:Int
 Word:Int
 Low:Int
 Bits:Int
 deriving DecidableEq
def kP:Rp fG:=Rp.iso (Rp.pair (Rp.int .i64) (Rp.pair (Rp.int .i64) (Rp.pair (Rp.int .i64) (Rp.int .i64)))) λx=>(x.Frame,x.Word,x.Low,x.Bits)
theorem aAt {F:Nat->Prop}{w:World}{cs:List Value}{x:fG}(h:kP.rd F w cs x):cs=[.int .i64 x.Frame,.int .i64 x.Word,.int .i64 x.Low,.int .i64 x.Bits]:=by
 obtain⟨_,_,rfl,rfl,⟨_,_,rfl,rfl,⟨_,_,rfl,rfl,rfl⟩⟩⟩:=h;exact rfl
theorem aUz {F:Nat->Prop}{w:World}{x:fG}:kP.rd F w [.int .i64 x.Frame,.int .i64 x.Word,.int .i64 x.Low,.int .i64 x.Bits] x:=⟨[_],_,rfl,rfl,⟨[_],_,rfl,rfl,⟨[_],_,rfl,rfl,rfl⟩⟩⟩
structure Cell where
 Param:Int
 Index:Int
 Frame:Int
 Places:List fG
 deriving DecidableEq
def qU:Rp Cell:=Rp.iso (Rp.pair (Rp.int .i64) (Rp.pair (Rp.int .i64) (Rp.pair (Rp.int .i64) (Rp.sl kP)))) λx=>(x.Param,x.Index,x.Frame,x.Places)
theorem uD {F:Nat->Prop}{w:World}{cs:List Value}{x:Cell}(h:qU.rd F w cs x): ∃a,cs=[.int .i64 x.Param,.int .i64 x.Index,.int .i64 x.Frame,a]/\SlF kP F w a x.Places:=by
 obtain⟨_,_,rfl,rfl,⟨_,_,rfl,rfl,⟨_,_,rfl,rfl,⟨v3,rfl,b⟩⟩⟩⟩:=h;exact⟨v3,rfl,b⟩
theorem rCell_mk {F:Nat->Prop}{w:World}{x:Cell}{v0:Value}(a:SlF kP F w v0 x.Places):qU.rd F w [.int .i64 x.Param,.int .i64 x.Index,.int .i64 x.Frame,v0] x:=⟨[_],_,rfl,rfl,⟨[_],_,rfl,rfl,⟨[_],_,rfl,rfl,⟨_,rfl,a⟩⟩⟩⟩
structure kU where
 Word:Int
 Kind:Int
 deriving DecidableEq
structure fE where
 At:Int
 N:Int
 Mark:Int
 deriving DecidableEq
def eG:Rp fE:=Rp.iso (Rp.pair (Rp.int .i64) (Rp.pair (Rp.int .i64) (Rp.int .i64))) λx=>(x.At,x.N,x.Mark)
theorem aH {F:Nat->Prop}{w:World}{cs:List Value}{x:fE}(h:eG.rd F w cs x):cs=[.int .i64 x.At,.int .i64 x.N,.int .i64 x.Mark]:=by
 obtain⟨_,_,rfl,rfl,⟨_,_,rfl,rfl,rfl⟩⟩:=h;exact rfl
theorem aAv {F:Nat->Prop}{w:World}{x:fE}:eG.rd F w [.int .i64 x.At,.int .i64 x.N,.int .i64 x.Mark] x:=⟨[_],_,rfl,rfl,⟨[_],_,rfl,rfl,rfl⟩⟩
structure Series where
 Den:Int
 Samples:List fE
 deriving DecidableEq
def rSeries:Rp Series:=Rp.iso (Rp.pair (Rp.int .i64) (Rp.sl eG)) λx=>(x.Den,x.Samples)
structure gV where
 Number:Int
 Word:Int
 deriving DecidableEq
def aV:Rp gV:=Rp.iso (Rp.pair (Rp.int .i64) (Rp.int .i64)) λx=>(x.Number,x.Word)
def dR:Fl gV:=Fl.iso (Fl.pair (Fl.int .i64) (Fl.int .i64)) λx=>(x.Number,x.Word)
theorem aAg {F:Nat->Prop}{w:World}{cs:List Value}{x:gV}(h:aV.rd F w cs x):cs=[.int .i64 x.Number,.int .i64 x.Word]:=by
 obtain⟨_,_,rfl,rfl,rfl⟩:=h;exact rfl
theorem aJk {F:Nat->Prop}{w:World}{x:gV}:aV.rd F w [.int .i64 x.Number,.int .i64 x.Word] x:=⟨[_],_,rfl,rfl,rfl⟩
structure Track where
 Name:Str
 Series:Series
 Long:Int
 deriving DecidableEq
def kE:Rp Track:=Rp.iso (Rp.pair Rp.str (Rp.pair rSeries (Rp.int .i64))) λx=>(x.Name,x.Series,x.Long)
theorem mJ {F:Nat->Prop}{w:World}{cs:List Value}{x:Track}(h:kE.rd F w cs x): ∃a,cs=[.string (bs x.Name),.int .i64 x.Series.Den,a,.int .i64 x.Long]/\SlF eG F w a x.Series.Samples:=by
 obtain⟨_,_,rfl,rfl,⟨_,_,rfl,⟨_,_,rfl,rfl,⟨b,rfl,c⟩⟩,rfl⟩⟩:=h;exact⟨b,rfl,c⟩
theorem rTrack_mk {F:Nat->Prop}{w:World}{x:Track}{v0:Value}(a:SlF eG F w v0 x.Series.Samples):kE.rd F w [.string (bs x.Name),.int .i64 x.Series.Den,v0,.int .i64 x.Long] x:=⟨[_],_,rfl,rfl,⟨[_,_],_,rfl,⟨[_],_,rfl,rfl,⟨_,rfl,a⟩⟩,rfl⟩⟩
structure fA where
 frame:Int
 word:Int
 bit:Int
 deriving DecidableEq
def nR:Rp fA:=Rp.iso (Rp.pair (Rp.int .i64) (Rp.pair (Rp.int .i64) (Rp.int .i64))) λx=>(x.frame,x.word,x.bit)
def dK:Fl fA:=Fl.iso (Fl.pair (Fl.int .i64) (Fl.pair (Fl.int .i64) (Fl.int .i64))) λx=>(x.frame,x.word,x.bit)
theorem aHv {F:Nat->Prop}{w:World}{cs:List Value}{x:fA}(h:nR.rd F w cs x):cs=[.int .i64 x.frame,.int .i64 x.word,.int .i64 x.bit]:=by
 obtain⟨_,_,rfl,rfl,⟨_,_,rfl,rfl,rfl⟩⟩:=h;exact rfl
theorem aMk {F:Nat->Prop}{w:World}{x:fA}:nR.rd F w [.int .i64 x.frame,.int .i64 x.word,.int .i64 x.bit] x:=⟨[_],_,rfl,rfl,⟨[_],_,rfl,rfl,rfl⟩⟩
structure aJh where
 at_:Int
 e:Int
 deriving DecidableEq
structure dQ where
 name:Bool
 other:Bool
 op:Bool
 n:Bool
 frames:Bool
 least:Int
 most:Int
 deriving DecidableEq
structure nK where
 N:Int
 Known:Bool
 deriving DecidableEq
def uI:Rp nK:=Rp.iso (Rp.pair (Rp.int .i64) Rp.bool) λx=>(x.N,x.Known)
theorem aHo {F:Nat->Prop}{w:World}{cs:List Value}{x:nK}(h:uI.rd F w cs x):cs=[.int .i64 x.N,.bool x.Known]:=by
 obtain⟨_,_,rfl,rfl,rfl⟩:=h;exact rfl
theorem rToldT_mk {F:Nat->Prop}{w:World}{x:nK}:uI.rd F w [.int .i64 x.N,.bool x.Known] x:=⟨[_],_,rfl,rfl,rfl⟩
structure gY where
 out:List Int
 deriving DecidableEq
def aZ:Rp gY:=Rp.iso (Rp.sl (Rp.int .u8)) λx=>(x.out)
theorem aAl {F:Nat->Prop}{w:World}{cs:List Value}{x:gY}(h:aZ.rd F w cs x): ∃a,cs=[a]/\SlF (Rp.int .u8) F w a x.out:=by
 obtain⟨v0,rfl,b⟩:=h;exact⟨v0,rfl,b⟩
theorem rQ {F:Nat->Prop}{w:World}{x:gY}{v0:Value}(a:SlF (Rp.int .u8) F w v0 x.out):aZ.rd F w [v0] x:=⟨_,rfl,a⟩
end Go.Lf
