/- Laws that the claim stands on; no condition beyond those stated. -/
import Derived.Test.YtbjofgmdhbiekaaGreatDoorXVp
namespace Go.Lf
open Go.RowKit Go.OB
structure gU where
 kind:Int
 at_:Int
 n:Int
 text:Str
 deriving DecidableEq
def aUj:Rp gU:=Rp.iso (Rp.pair (Rp.int .i64) (Rp.pair (Rp.int .i64) (Rp.pair (Rp.int .i64) Rp.str))) λx=>(x.kind,x.at_,x.n,x.text)
structure Cond where
 Kind:Int
 Name:Str
 Other:Str
 Op:Int
 N:Int
 Frames:Int
 Kids:List Cond
def aAq:Nat->Rp Cond
 |0=>Rp.bot 7
 |n+1=>Rp.iso (Rp.pair (Rp.int .i64) (Rp.pair Rp.str (Rp.pair Rp.str (Rp.pair (Rp.int .i64) (Rp.pair (Rp.int .i64) (Rp.pair (Rp.int .i64) (Rp.sl (aAq n)))))))) λx=>(x.Kind,x.Name,x.Other,x.Op,x.N,x.Frames,x.Kids)
theorem aOc: ∀n,(aAq n).sz=7
 |0=>rfl
 |_+1=>rfl
theorem aHi {F:Nat->Prop}{w:World}{n:Nat}{cs:List Value}{x:Cond}(h:(aAq (n+1)).rd F w cs x): ∃v0,cs=[.int .i64 x.Kind,.string (bs x.Name),.string (bs x.Other),.int .i64 x.Op,.int .i64 x.N,.int .i64 x.Frames,v0]/\SlF (aAq n) F w v0 x.Kids:=by
 obtain⟨_,_,rfl,rfl,⟨_,_,rfl,rfl,⟨_,_,rfl,rfl,⟨_,_,rfl,rfl,⟨_,_,rfl,rfl,⟨_,_,rfl,rfl,⟨v0,rfl,a⟩⟩⟩⟩⟩⟩⟩:=h;exact⟨v0,rfl,a⟩
theorem aNh {F:Nat->Prop}{w:World}{n:Nat}{x:Cond}{v0:Value}(a:SlF (aAq n) F w v0 x.Kids):(aAq (n+1)).rd F w [.int .i64 x.Kind,.string (bs x.Name),.string (bs x.Other),.int .i64 x.Op,.int .i64 x.N,.int .i64 x.Frames,v0] x:=⟨[_],_,rfl,rfl,⟨[_],_,rfl,rfl,⟨[_],_,rfl,rfl,⟨[_],_,rfl,rfl,⟨[_],_,rfl,rfl,⟨[_],_,rfl,rfl,⟨_,rfl,a⟩⟩⟩⟩⟩⟩⟩
theorem aNj: ∀n,(aAq n).le (aAq (n+1))
 |0=>⟨rfl,λ_ _ _ _ h=>h.elim⟩
 |n+1=>⟨rfl,λF w cs x h=>by
  obtain⟨v0,rfl,a⟩:=aHi h;exact aNh (slf_le (aNj n) a)⟩
def dF:Rp Cond:=Rp.lim aAq 7 aOc
theorem kR {F:Nat->Prop}{w:World}{cs:List Value}{x:Cond}(h:dF.rd F w cs x): ∃v0,cs=[.int .i64 x.Kind,.string (bs x.Name),.string (bs x.Other),.int .i64 x.Op,.int .i64 x.N,.int .i64 x.Frames,v0]/\SlF (dF) F w v0 x.Kids:=by
 obtain⟨n,h⟩:=h
 cases n with
 |zero=>exact h.elim
 |succ n=>
  obtain⟨v0,rfl,a⟩:=aHi h;exact⟨v0,rfl,slf_le (le_lim (h:=aOc) n) a⟩
theorem uU {F:Nat->Prop}{w:World}{x:Cond}{v0:Value}(a:SlF (dF) F w v0 x.Kids):dF.rd F w [.int .i64 x.Kind,.string (bs x.Name),.string (bs x.Other),.int .i64 x.Op,.int .i64 x.N,.int .i64 x.Frames,v0] x:=by
 obtain⟨n,a⟩:=slf_lim aNj a;exact⟨n+1,aNh a⟩
structure mF where
 From:Str
 To:Str
 When:Cond
def fK:Rp mF:=Rp.iso (Rp.pair Rp.str (Rp.pair Rp.str dF)) λx=>(x.From,x.To,x.When)
theorem aHq {F:Nat->Prop}{w:World}{cs:List Value}{x:mF}(h:fK.rd F w cs x): ∃a,cs=[.string (bs x.From),.string (bs x.To),.int .i64 x.When.Kind,.string (bs x.When.Name),.string (bs x.When.Other),.int .i64 x.When.Op,.int .i64 x.When.N,.int .i64 x.When.Frames,a]/\SlF dF F w a x.When.Kids:=by
 obtain⟨_,_,rfl,rfl,⟨_,_,rfl,rfl,d⟩⟩:=h;obtain⟨b,rfl,c⟩:=kR d;exact⟨b,rfl,c⟩
theorem rMoveT_mk {F:Nat->Prop}{w:World}{x:mF}{v0:Value}(a:SlF dF F w v0 x.When.Kids):fK.rd F w [.string (bs x.From),.string (bs x.To),.int .i64 x.When.Kind,.string (bs x.When.Name),.string (bs x.When.Other),.int .i64 x.When.Op,.int .i64 x.When.N,.int .i64 x.When.Frames,v0] x:=⟨[_],_,rfl,rfl,⟨[_],_,rfl,rfl,(uU a)⟩⟩
structure jU where
 Name:Str
 When:Cond
def eG:Rp jU:=Rp.iso (Rp.pair Rp.str dF) λx=>(x.Name,x.When)
theorem mX {F:Nat->Prop}{w:World}{cs:List Value}{x:jU}(h:eG.rd F w cs x): ∃a,cs=[.string (bs x.Name),.int .i64 x.When.Kind,.string (bs x.When.Name),.string (bs x.When.Other),.int .i64 x.When.Op,.int .i64 x.When.N,.int .i64 x.When.Frames,a]/\SlF dF F w a x.When.Kids:=by
 obtain⟨_,_,rfl,rfl,d⟩:=h;obtain⟨b,rfl,c⟩:=kR d;exact⟨b,rfl,c⟩
theorem aSn {F:Nat->Prop}{w:World}{x:jU}{v0:Value}(a:SlF dF F w v0 x.When.Kids):eG.rd F w [.string (bs x.Name),.int .i64 x.When.Kind,.string (bs x.When.Name),.string (bs x.When.Other),.int .i64 x.When.Op,.int .i64 x.When.N,.int .i64 x.When.Frames,v0] x:=⟨[_],_,rfl,rfl,(uU a)⟩
structure Rules where
 Phases:List Str
 Moves:List mF
 Rules:List jU
def rRules:Rp Rules:=Rp.iso (Rp.pair (Rp.sl Rp.str) (Rp.pair (Rp.sl fK) (Rp.sl eG))) λx=>(x.Phases,x.Moves,x.Rules)
structure gI where
 text:Str
 at_:Int
 now:gU
 r:Rules
def eP:Rp gI:=Rp.iso (Rp.pair Rp.str (Rp.pair (Rp.int .i64) (Rp.pair aUj rRules))) λx=>(x.text,x.at_,x.now,x.r)
theorem kK {F:Nat->Prop}{w:World}{cs:List Value}{x:gI}(h:eP.rd F w cs x): ∃a b c,cs=[.string (bs x.text),.int .i64 x.at_,.int .i64 x.now.kind,.int .i64 x.now.at_,.int .i64 x.now.n,.string (bs x.now.text),a,b,c]/\SlF Rp.str F w a x.r.Phases/\SlF fK F w b x.r.Moves/\SlF eG F w c x.r.Rules:=by
 obtain⟨_,_,rfl,rfl,⟨_,_,rfl,rfl,⟨_,_,rfl,⟨_,_,rfl,rfl,⟨_,_,rfl,rfl,⟨_,_,rfl,rfl,rfl⟩⟩⟩,⟨_,_,rfl,⟨d,rfl,e⟩,⟨_,_,rfl,⟨f,rfl,g⟩,⟨i,rfl,j⟩⟩⟩⟩⟩⟩:=h;exact⟨d,f,i,rfl,e,g,j⟩
theorem xN {F:Nat->Prop}{w:World}{x:gI}{v0 v1 v2:Value}(a:SlF Rp.str F w v0 x.r.Phases)(h1:SlF fK F w v1 x.r.Moves)(b:SlF eG F w v2 x.r.Rules):eP.rd F w [.string (bs x.text),.int .i64 x.at_,.int .i64 x.now.kind,.int .i64 x.now.at_,.int .i64 x.now.n,.string (bs x.now.text),v0,v1,v2] x:=⟨[_],_,rfl,rfl,⟨[_],_,rfl,rfl,⟨[_,_,_,_],_,rfl,⟨[_],_,rfl,rfl,⟨[_],_,rfl,rfl,⟨[_],_,rfl,rfl,rfl⟩⟩⟩,⟨[_],_,rfl,⟨_,rfl,a⟩,⟨[_],_,rfl,⟨_,rfl,h1⟩,⟨_,rfl,b⟩⟩⟩⟩⟩⟩
structure Part where
 Frame:Int
 Word:Int
 Low:Int
 Bits:Int
 deriving DecidableEq
def jI:Rp Part:=Rp.iso (Rp.pair (Rp.int .i64) (Rp.pair (Rp.int .i64) (Rp.pair (Rp.int .i64) (Rp.int .i64)))) λx=>(x.Frame,x.Word,x.Low,x.Bits)
theorem kL {F:Nat->Prop}{w:World}{cs:List Value}{x:Part}(h:jI.rd F w cs x):cs=[.int .i64 x.Frame,.int .i64 x.Word,.int .i64 x.Low,.int .i64 x.Bits]:=by
 obtain⟨_,_,rfl,rfl,⟨_,_,rfl,rfl,⟨_,_,rfl,rfl,rfl⟩⟩⟩:=h;exact rfl
structure Param where
 Name:Str
 Kind:Int
 Parts:List Part
 First:Int
 Every:Int
 Times:Int
 Step:Int
 Names:List Str
 deriving DecidableEq
def qN:Rp Param:=Rp.iso (Rp.pair Rp.str (Rp.pair (Rp.int .i64) (Rp.pair (Rp.sl jI) (Rp.pair (Rp.int .i64) (Rp.pair (Rp.int .i64) (Rp.pair (Rp.int .i64) (Rp.pair (Rp.int .i64) (Rp.sl Rp.str)))))))) λx=>(x.Name,x.Kind,x.Parts,x.First,x.Every,x.Times,x.Step,x.Names)
theorem xX {F:Nat->Prop}{w:World}{cs:List Value}{x:Param}(h:qN.rd F w cs x): ∃a b,cs=[.string (bs x.Name),.int .i64 x.Kind,a,.int .i64 x.First,.int .i64 x.Every,.int .i64 x.Times,.int .i64 x.Step,b]/\SlF jI F w a x.Parts/\SlF Rp.str F w b x.Names:=by
 obtain⟨_,_,rfl,rfl,⟨_,_,rfl,rfl,⟨_,_,rfl,⟨v2,rfl,c⟩,⟨_,_,rfl,rfl,⟨_,_,rfl,rfl,⟨_,_,rfl,rfl,⟨_,_,rfl,rfl,⟨d,rfl,e⟩⟩⟩⟩⟩⟩⟩⟩:=h;exact⟨v2,d,rfl,c,e⟩
theorem aCy {F:Nat->Prop}{w:World}{x:Param}{v0 v1:Value}(a:SlF jI F w v0 x.Parts)(h1:SlF Rp.str F w v1 x.Names):qN.rd F w [.string (bs x.Name),.int .i64 x.Kind,v0,.int .i64 x.First,.int .i64 x.Every,.int .i64 x.Times,.int .i64 x.Step,v1] x:=⟨[_],_,rfl,rfl,⟨[_],_,rfl,rfl,⟨[_],_,rfl,⟨_,rfl,a⟩,⟨[_],_,rfl,rfl,⟨[_],_,rfl,rfl,⟨[_],_,rfl,rfl,⟨[_],_,rfl,rfl,⟨_,rfl,h1⟩⟩⟩⟩⟩⟩⟩⟩
structure Map where
 Version:Int
 Params:List Param
 deriving DecidableEq
def rMap:Rp Map:=Rp.iso (Rp.pair (Rp.int .i64) (Rp.sl qN)) λx=>(x.Version,x.Params)
structure Line where
 From:Int
 To:Int
 A:Int
 B:Int
 deriving DecidableEq
def rV:Rp Line:=Rp.iso (Rp.pair (Rp.int .i64) (Rp.pair (Rp.int .i64) (Rp.pair (Rp.int .i64) (Rp.int .i64)))) λx=>(x.From,x.To,x.A,x.B)
theorem qZ {F:Nat->Prop}{w:World}{cs:List Value}{x:Line}(h:rV.rd F w cs x):cs=[.int .i64 x.From,.int .i64 x.To,.int .i64 x.A,.int .i64 x.B]:=by
 obtain⟨_,_,rfl,rfl,⟨_,_,rfl,rfl,⟨_,_,rfl,rfl,rfl⟩⟩⟩:=h;exact rfl
structure eU where
 Den:Int
 Lines:List Line
 Low:Int
 High:Int
 deriving DecidableEq
def eY:Rp eU:=Rp.iso (Rp.pair (Rp.int .i64) (Rp.pair (Rp.sl rV) (Rp.pair (Rp.int .i64) (Rp.int .i64)))) λx=>(x.Den,x.Lines,x.Low,x.High)
theorem wI {F:Nat->Prop}{w:World}{cs:List Value}{x:eU}(h:eY.rd F w cs x): ∃a,cs=[.int .i64 x.Den,a,.int .i64 x.Low,.int .i64 x.High]/\SlF rV F w a x.Lines:=by
 obtain⟨_,_,rfl,rfl,⟨_,_,rfl,⟨v1,rfl,h1⟩,⟨_,_,rfl,rfl,rfl⟩⟩⟩:=h;exact⟨v1,rfl,h1⟩
structure fC where
 Track:Str
 Param:Str
 Meaning:List eU
 Long:Int
 deriving DecidableEq
def rZ:Rp fC:=Rp.iso (Rp.pair Rp.str (Rp.pair Rp.str (Rp.pair (Rp.sl eY) (Rp.int .i64)))) λx=>(x.Track,x.Param,x.Meaning,x.Long)
theorem dX {F:Nat->Prop}{w:World}{cs:List Value}{x:fC}(h:rZ.rd F w cs x): ∃a,cs=[.string (bs x.Track),.string (bs x.Param),a,.int .i64 x.Long]/\SlF eY F w a x.Meaning:=by
 obtain⟨_,_,rfl,rfl,⟨_,_,rfl,rfl,⟨_,_,rfl,⟨v2,rfl,b⟩,rfl⟩⟩⟩:=h;exact⟨v2,rfl,b⟩
structure gW where
 Number:Int
 Frame:Arr 64 Int
 States:Arr 64 Int
 Sound:Bool
 Copies:Int
 Conflict:Bool
 deriving DecidableEq
def aBb:Rp gW:=Rp.iso (Rp.pair (Rp.int .i64) (Rp.pair (Rp.fl (Fl.arr 64 (Fl.int .u16))) (Rp.pair (Rp.fl (Fl.arr 64 (Fl.int .i64))) (Rp.pair Rp.bool (Rp.pair (Rp.int .i64) Rp.bool))))) λx=>(x.Number,x.Frame,x.States,x.Sound,x.Copies,x.Conflict)
def rJ:Fl gW:=Fl.iso (Fl.pair (Fl.int .i64) (Fl.pair (Fl.arr 64 (Fl.int .u16)) (Fl.pair (Fl.arr 64 (Fl.int .i64)) (Fl.pair Fl.bool (Fl.pair (Fl.int .i64) Fl.bool))))) λx=>(x.Number,x.Frame,x.States,x.Sound,x.Copies,x.Conflict)
theorem xH {F:Nat->Prop}{w:World}{cs:List Value}{x:gW}(h:aBb.rd F w cs x):cs=([.int .i64 x.Number]:List Value)++(((Fl.arr 64 (Fl.int .u16)).f x.Frame)++(((Fl.arr 64 (Fl.int .i64)).f x.States)++([.bool x.Sound,.int .i64 x.Copies,.bool x.Conflict]:List Value))):=by
 obtain⟨_,_,rfl,rfl,⟨_,_,rfl,rfl,⟨_,_,rfl,rfl,⟨_,_,rfl,rfl,⟨_,_,rfl,rfl,rfl⟩⟩⟩⟩⟩:=h;exact rfl
structure Book where
 Map:Map
 Sources:List fC
 Rests:List gW
 deriving DecidableEq
def rBook:Rp Book:=Rp.iso (Rp.pair rMap (Rp.pair (Rp.sl rZ) (Rp.sl aBb))) λx=>(x.Map,x.Sources,x.Rests)
theorem aUu {F:Nat->Prop}{w:World}{cs:List Value}{x:Book}(h:rBook.rd F w cs x): ∃a b c,cs=[.int .i64 x.Map.Version,a,b,c]/\SlF qN F w a x.Map.Params/\SlF rZ F w b x.Sources/\SlF aBb F w c x.Rests:=by
 obtain⟨_,_,rfl,⟨_,_,rfl,rfl,⟨d,rfl,e⟩⟩,⟨_,_,rfl,⟨v1,rfl,h1⟩,⟨v2,rfl,f⟩⟩⟩:=h;exact⟨d,v1,v2,rfl,e,h1,f⟩
structure fG where
 Frame:Int
 Word:Int
 Low:Int
 Bits:Int
 deriving DecidableEq
def dC:Rp fG:=Rp.iso (Rp.pair (Rp.int .i64) (Rp.pair (Rp.int .i64) (Rp.pair (Rp.int .i64) (Rp.int .i64)))) λx=>(x.Frame,x.Word,x.Low,x.Bits)
theorem jP {F:Nat->Prop}{w:World}{cs:List Value}{x:fG}(h:dC.rd F w cs x):cs=[.int .i64 x.Frame,.int .i64 x.Word,.int .i64 x.Low,.int .i64 x.Bits]:=by
 obtain⟨_,_,rfl,rfl,⟨_,_,rfl,rfl,⟨_,_,rfl,rfl,rfl⟩⟩⟩:=h;exact rfl
theorem aMb {F:Nat->Prop}{w:World}{x:fG}:dC.rd F w [.int .i64 x.Frame,.int .i64 x.Word,.int .i64 x.Low,.int .i64 x.Bits] x:=⟨[_],_,rfl,rfl,⟨[_],_,rfl,rfl,⟨[_],_,rfl,rfl,rfl⟩⟩⟩
structure Cell where
 Param:Int
 Index:Int
 Frame:Int
 Places:List fG
 deriving DecidableEq
def dK:Rp Cell:=Rp.iso (Rp.pair (Rp.int .i64) (Rp.pair (Rp.int .i64) (Rp.pair (Rp.int .i64) (Rp.sl dC)))) λx=>(x.Param,x.Index,x.Frame,x.Places)
theorem aA {F:Nat->Prop}{w:World}{cs:List Value}{x:Cell}(h:dK.rd F w cs x): ∃a,cs=[.int .i64 x.Param,.int .i64 x.Index,.int .i64 x.Frame,a]/\SlF dC F w a x.Places:=by
 obtain⟨_,_,rfl,rfl,⟨_,_,rfl,rfl,⟨_,_,rfl,rfl,⟨v3,rfl,b⟩⟩⟩⟩:=h;exact⟨v3,rfl,b⟩
theorem aFi {F:Nat->Prop}{w:World}{x:Cell}{v0:Value}(a:SlF dC F w v0 x.Places):dK.rd F w [.int .i64 x.Param,.int .i64 x.Index,.int .i64 x.Frame,v0] x:=⟨[_],_,rfl,rfl,⟨[_],_,rfl,rfl,⟨[_],_,rfl,rfl,⟨_,rfl,a⟩⟩⟩⟩
structure aB where
 Word:Int
 Kind:Int
 deriving DecidableEq
def rW:Rp aB:=Rp.iso (Rp.pair (Rp.int .i64) (Rp.int .i64)) λx=>(x.Word,x.Kind)
theorem aCk {F:Nat->Prop}{w:World}{x:aB}:rW.rd F w [.int .i64 x.Word,.int .i64 x.Kind] x:=⟨[_],_,rfl,rfl,rfl⟩
structure dA where
 At:Int
 N:Int
 Mark:Int
 deriving DecidableEq
def dO:Rp dA:=Rp.iso (Rp.pair (Rp.int .i64) (Rp.pair (Rp.int .i64) (Rp.int .i64))) λx=>(x.At,x.N,x.Mark)
theorem aAy {F:Nat->Prop}{w:World}{x:dA}:dO.rd F w [.int .i64 x.At,.int .i64 x.N,.int .i64 x.Mark] x:=⟨[_],_,rfl,rfl,⟨[_],_,rfl,rfl,rfl⟩⟩
structure jL where
 Den:Int
 Samples:List dA
 deriving DecidableEq
structure gK where
 Number:Int
 Word:Int
 deriving DecidableEq
def fV:Rp gK:=Rp.iso (Rp.pair (Rp.int .i64) (Rp.int .i64)) λx=>(x.Number,x.Word)
def cO:Fl gK:=Fl.iso (Fl.pair (Fl.int .i64) (Fl.int .i64)) λx=>(x.Number,x.Word)
theorem dZ {F:Nat->Prop}{w:World}{cs:List Value}{x:gK}(h:fV.rd F w cs x):cs=[.int .i64 x.Number,.int .i64 x.Word]:=by
 obtain⟨_,_,rfl,rfl,rfl⟩:=h;exact rfl
theorem aAu {F:Nat->Prop}{w:World}{x:gK}:fV.rd F w [.int .i64 x.Number,.int .i64 x.Word] x:=⟨[_],_,rfl,rfl,rfl⟩
structure Track where
 Name:Str
 jL:jL
 Long:Int
 deriving DecidableEq
structure fB where
 frame:Int
 word:Int
 bit:Int
 deriving DecidableEq
def qB:Rp fB:=Rp.iso (Rp.pair (Rp.int .i64) (Rp.pair (Rp.int .i64) (Rp.int .i64))) λx=>(x.frame,x.word,x.bit)
def dN:Fl fB:=Fl.iso (Fl.pair (Fl.int .i64) (Fl.pair (Fl.int .i64) (Fl.int .i64))) λx=>(x.frame,x.word,x.bit)
theorem aIl {F:Nat->Prop}{w:World}{cs:List Value}{x:fB}(h:qB.rd F w cs x):cs=[.int .i64 x.frame,.int .i64 x.word,.int .i64 x.bit]:=by
 obtain⟨_,_,rfl,rfl,⟨_,_,rfl,rfl,rfl⟩⟩:=h;exact rfl
theorem aMr {F:Nat->Prop}{w:World}{x:fB}:qB.rd F w [.int .i64 x.frame,.int .i64 x.word,.int .i64 x.bit] x:=⟨[_],_,rfl,rfl,⟨[_],_,rfl,rfl,rfl⟩⟩
structure aLf where
 at_:Int
 e:Int
 deriving DecidableEq
structure dV where
 name:Bool
 other:Bool
 op:Bool
 n:Bool
 frames:Bool
 least:Int
 most:Int
 deriving DecidableEq
structure gY where
 out:List Int
 deriving DecidableEq
def mG:Rp gY:=Rp.iso (Rp.sl (Rp.int .u8)) λx=>(x.out)
theorem aBl {F:Nat->Prop}{w:World}{cs:List Value}{x:gY}(h:mG.rd F w cs x): ∃a,cs=[a]/\SlF (Rp.int .u8) F w a x.out:=by
 obtain⟨v0,rfl,b⟩:=h;exact⟨v0,rfl,b⟩
theorem aCc {F:Nat->Prop}{w:World}{x:gY}{v0:Value}(a:SlF (Rp.int .u8) F w v0 x.out):mG.rd F w [v0] x:=⟨_,rfl,a⟩
end Go.Lf
