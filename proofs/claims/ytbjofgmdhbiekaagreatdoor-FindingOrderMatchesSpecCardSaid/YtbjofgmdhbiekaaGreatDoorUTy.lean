/- Laws that the claim stands on; no condition beyond those stated. -/
import Derived.Test.YtbjofgmdhbiekaaGreatDoorXVp
namespace Go.Lf
open Go.RowKit Go.OB
structure gQ where
 kind:Int
 at_:Int
 n:Int
 text:Str
 deriving DecidableEq
def aSu:Rp gQ:=Rp.iso (Rp.pair (Rp.int .i64) (Rp.pair (Rp.int .i64) (Rp.pair (Rp.int .i64) Rp.str))) λx=>(x.kind,x.at_,x.n,x.text)
structure Cond where
 Kind:Int
 Name:Str
 Other:Str
 Op:Int
 N:Int
 Frames:Int
 Kids:List Cond
def aAt:Nat->Rp Cond
 |0=>Rp.bot 7
 |n+1=>Rp.iso (Rp.pair (Rp.int .i64) (Rp.pair Rp.str (Rp.pair Rp.str (Rp.pair (Rp.int .i64) (Rp.pair (Rp.int .i64) (Rp.pair (Rp.int .i64) (Rp.sl (aAt n)))))))) λx=>(x.Kind,x.Name,x.Other,x.Op,x.N,x.Frames,x.Kids)
theorem aNf: ∀n,(aAt n).sz=7
 |0=>rfl
 |_+1=>rfl
theorem aHf {F:Nat->Prop}{w:World}{n:Nat}{cs:List Value}{x:Cond}(h:(aAt (n+1)).rd F w cs x): ∃v0,cs=[.int .i64 x.Kind,.string (bs x.Name),.string (bs x.Other),.int .i64 x.Op,.int .i64 x.N,.int .i64 x.Frames,v0]/\SlF (aAt n) F w v0 x.Kids:=by
 obtain⟨_,_,rfl,rfl,⟨_,_,rfl,rfl,⟨_,_,rfl,rfl,⟨_,_,rfl,rfl,⟨_,_,rfl,rfl,⟨_,_,rfl,rfl,⟨v0,rfl,a⟩⟩⟩⟩⟩⟩⟩:=h;exact⟨v0,rfl,a⟩
theorem aNv {F:Nat->Prop}{w:World}{n:Nat}{x:Cond}{v0:Value}(a:SlF (aAt n) F w v0 x.Kids):(aAt (n+1)).rd F w [.int .i64 x.Kind,.string (bs x.Name),.string (bs x.Other),.int .i64 x.Op,.int .i64 x.N,.int .i64 x.Frames,v0] x:=⟨[_],_,rfl,rfl,⟨[_],_,rfl,rfl,⟨[_],_,rfl,rfl,⟨[_],_,rfl,rfl,⟨[_],_,rfl,rfl,⟨[_],_,rfl,rfl,⟨_,rfl,a⟩⟩⟩⟩⟩⟩⟩
theorem aMk: ∀n,(aAt n).le (aAt (n+1))
 |0=>⟨rfl,λ_ _ _ _ h=>h.elim⟩
 |n+1=>⟨rfl,λF w cs x h=>by
  obtain⟨v0,rfl,a⟩:=aHf h;exact aNv (slf_le (aMk n) a)⟩
def dB:Rp Cond:=Rp.lim aAt 7 aNf
theorem kF {F:Nat->Prop}{w:World}{cs:List Value}{x:Cond}(h:dB.rd F w cs x): ∃v0,cs=[.int .i64 x.Kind,.string (bs x.Name),.string (bs x.Other),.int .i64 x.Op,.int .i64 x.N,.int .i64 x.Frames,v0]/\SlF (dB) F w v0 x.Kids:=by
 obtain⟨n,h⟩:=h
 cases n with
 |zero=>exact h.elim
 |succ n=>
  obtain⟨v0,rfl,a⟩:=aHf h;exact⟨v0,rfl,slf_le (le_lim (h:=aNf) n) a⟩
theorem uO {F:Nat->Prop}{w:World}{x:Cond}{v0:Value}(a:SlF (dB) F w v0 x.Kids):dB.rd F w [.int .i64 x.Kind,.string (bs x.Name),.string (bs x.Other),.int .i64 x.Op,.int .i64 x.N,.int .i64 x.Frames,v0] x:=by
 obtain⟨n,a⟩:=slf_lim aMk a;exact⟨n+1,aNv a⟩
structure jO where
 From:Str
 To:Str
 When:Cond
def fK:Rp jO:=Rp.iso (Rp.pair Rp.str (Rp.pair Rp.str dB)) λx=>(x.From,x.To,x.When)
theorem aGs {F:Nat->Prop}{w:World}{cs:List Value}{x:jO}(h:fK.rd F w cs x): ∃v80,cs=[.string (bs x.From),.string (bs x.To),.int .i64 x.When.Kind,.string (bs x.When.Name),.string (bs x.When.Other),.int .i64 x.When.Op,.int .i64 x.When.N,.int .i64 x.When.Frames,v80]/\SlF dB F w v80 x.When.Kids:=by
 obtain⟨_,_,rfl,rfl,⟨_,_,rfl,rfl,c⟩⟩:=h;obtain⟨a,rfl,b⟩:=kF c;exact⟨a,rfl,b⟩
theorem rMoveT_mk {F:Nat->Prop}{w:World}{x:jO}{v0:Value}(a:SlF dB F w v0 x.When.Kids):fK.rd F w [.string (bs x.From),.string (bs x.To),.int .i64 x.When.Kind,.string (bs x.When.Name),.string (bs x.When.Other),.int .i64 x.When.Op,.int .i64 x.When.N,.int .i64 x.When.Frames,v0] x:=⟨[_],_,rfl,rfl,⟨[_],_,rfl,rfl,(uO a)⟩⟩
structure Rule where
 Name:Str
 When:Cond
def fU:Rp Rule:=Rp.iso (Rp.pair Rp.str dB) λx=>(x.Name,x.When)
theorem jU {F:Nat->Prop}{w:World}{cs:List Value}{x:Rule}(h:fU.rd F w cs x): ∃a,cs=[.string (bs x.Name),.int .i64 x.When.Kind,.string (bs x.When.Name),.string (bs x.When.Other),.int .i64 x.When.Op,.int .i64 x.When.N,.int .i64 x.When.Frames,a]/\SlF dB F w a x.When.Kids:=by
 obtain⟨_,_,rfl,rfl,d⟩:=h;obtain⟨b,rfl,c⟩:=kF d;exact⟨b,rfl,c⟩
theorem aSb {F:Nat->Prop}{w:World}{x:Rule}{v0:Value}(a:SlF dB F w v0 x.When.Kids):fU.rd F w [.string (bs x.Name),.int .i64 x.When.Kind,.string (bs x.When.Name),.string (bs x.When.Other),.int .i64 x.When.Op,.int .i64 x.When.N,.int .i64 x.When.Frames,v0] x:=⟨[_],_,rfl,rfl,(uO a)⟩
structure Rules where
 Phases:List Str
 Moves:List jO
 Rules:List Rule
def rRules:Rp Rules:=Rp.iso (Rp.pair (Rp.sl Rp.str) (Rp.pair (Rp.sl fK) (Rp.sl fU))) λx=>(x.Phases,x.Moves,x.Rules)
structure gI where
 text:Str
 at_:Int
 now:gQ
 r:Rules
def fV:Rp gI:=Rp.iso (Rp.pair Rp.str (Rp.pair (Rp.int .i64) (Rp.pair aSu rRules))) λx=>(x.text,x.at_,x.now,x.r)
theorem aX {F:Nat->Prop}{w:World}{cs:List Value}{x:gI}(h:fV.rd F w cs x): ∃v85 a v87,cs=[.string (bs x.text),.int .i64 x.at_,.int .i64 x.now.kind,.int .i64 x.now.at_,.int .i64 x.now.n,.string (bs x.now.text),v85,a,v87]/\SlF Rp.str F w v85 x.r.Phases/\SlF fK F w a x.r.Moves/\SlF fU F w v87 x.r.Rules:=by
 obtain⟨_,_,rfl,rfl,⟨_,_,rfl,rfl,⟨_,_,rfl,⟨_,_,rfl,rfl,⟨_,_,rfl,rfl,⟨_,_,rfl,rfl,rfl⟩⟩⟩,⟨_,_,rfl,⟨b,rfl,c⟩,⟨_,_,rfl,⟨d,rfl,e⟩,⟨f,rfl,g⟩⟩⟩⟩⟩⟩:=h;exact⟨b,d,f,rfl,c,e,g⟩
theorem xQ {F:Nat->Prop}{w:World}{x:gI}{v0 v1 v2:Value}(a:SlF Rp.str F w v0 x.r.Phases)(b:SlF fK F w v1 x.r.Moves)(c:SlF fU F w v2 x.r.Rules):fV.rd F w [.string (bs x.text),.int .i64 x.at_,.int .i64 x.now.kind,.int .i64 x.now.at_,.int .i64 x.now.n,.string (bs x.now.text),v0,v1,v2] x:=⟨[_],_,rfl,rfl,⟨[_],_,rfl,rfl,⟨[_,_,_,_],_,rfl,⟨[_],_,rfl,rfl,⟨[_],_,rfl,rfl,⟨[_],_,rfl,rfl,rfl⟩⟩⟩,⟨[_],_,rfl,⟨_,rfl,a⟩,⟨[_],_,rfl,⟨_,rfl,b⟩,⟨_,rfl,c⟩⟩⟩⟩⟩⟩
structure Part where
 Frame:Int
 Word:Int
 Low:Int
 Bits:Int
 deriving DecidableEq
def jD:Rp Part:=Rp.iso (Rp.pair (Rp.int .i64) (Rp.pair (Rp.int .i64) (Rp.pair (Rp.int .i64) (Rp.int .i64)))) λx=>(x.Frame,x.Word,x.Low,x.Bits)
theorem kC {F:Nat->Prop}{w:World}{cs:List Value}{x:Part}(h:jD.rd F w cs x):cs=[.int .i64 x.Frame,.int .i64 x.Word,.int .i64 x.Low,.int .i64 x.Bits]:=by
 obtain⟨_,_,rfl,rfl,⟨_,_,rfl,rfl,⟨_,_,rfl,rfl,rfl⟩⟩⟩:=h;exact rfl
structure Param where
 Name:Str
 Kind:Int
 Parts:List Part
 First:Int
 Every:Int
 Times:Int
 Step:Int
 Names:List Str
 deriving DecidableEq
def uT:Rp Param:=Rp.iso (Rp.pair Rp.str (Rp.pair (Rp.int .i64) (Rp.pair (Rp.sl jD) (Rp.pair (Rp.int .i64) (Rp.pair (Rp.int .i64) (Rp.pair (Rp.int .i64) (Rp.pair (Rp.int .i64) (Rp.sl Rp.str)))))))) λx=>(x.Name,x.Kind,x.Parts,x.First,x.Every,x.Times,x.Step,x.Names)
theorem wG {F:Nat->Prop}{w:World}{cs:List Value}{x:Param}(h:uT.rd F w cs x): ∃a b,cs=[.string (bs x.Name),.int .i64 x.Kind,a,.int .i64 x.First,.int .i64 x.Every,.int .i64 x.Times,.int .i64 x.Step,b]/\SlF jD F w a x.Parts/\SlF Rp.str F w b x.Names:=by
 obtain⟨_,_,rfl,rfl,⟨_,_,rfl,rfl,⟨_,_,rfl,⟨v2,rfl,c⟩,⟨_,_,rfl,rfl,⟨_,_,rfl,rfl,⟨_,_,rfl,rfl,⟨_,_,rfl,rfl,⟨d,rfl,e⟩⟩⟩⟩⟩⟩⟩⟩:=h;exact⟨v2,d,rfl,c,e⟩
theorem rParam_mk {F:Nat->Prop}{w:World}{x:Param}{v0 v1:Value}(a:SlF jD F w v0 x.Parts)(b:SlF Rp.str F w v1 x.Names):uT.rd F w [.string (bs x.Name),.int .i64 x.Kind,v0,.int .i64 x.First,.int .i64 x.Every,.int .i64 x.Times,.int .i64 x.Step,v1] x:=⟨[_],_,rfl,rfl,⟨[_],_,rfl,rfl,⟨[_],_,rfl,⟨_,rfl,a⟩,⟨[_],_,rfl,rfl,⟨[_],_,rfl,rfl,⟨[_],_,rfl,rfl,⟨[_],_,rfl,rfl,⟨_,rfl,b⟩⟩⟩⟩⟩⟩⟩⟩
structure Map where
 Version:Int
 Params:List Param
 deriving DecidableEq
def rMap:Rp Map:=Rp.iso (Rp.pair (Rp.int .i64) (Rp.sl uT)) λx=>(x.Version,x.Params)
structure Line where
 From:Int
 To:Int
 A:Int
 B:Int
 deriving DecidableEq
def rO:Rp Line:=Rp.iso (Rp.pair (Rp.int .i64) (Rp.pair (Rp.int .i64) (Rp.pair (Rp.int .i64) (Rp.int .i64)))) λx=>(x.From,x.To,x.A,x.B)
theorem qO {F:Nat->Prop}{w:World}{cs:List Value}{x:Line}(h:rO.rd F w cs x):cs=[.int .i64 x.From,.int .i64 x.To,.int .i64 x.A,.int .i64 x.B]:=by
 obtain⟨_,_,rfl,rfl,⟨_,_,rfl,rfl,⟨_,_,rfl,rfl,rfl⟩⟩⟩:=h;exact rfl
structure eG where
 Den:Int
 Lines:List Line
 Low:Int
 High:Int
 deriving DecidableEq
def dN:Rp eG:=Rp.iso (Rp.pair (Rp.int .i64) (Rp.pair (Rp.sl rO) (Rp.pair (Rp.int .i64) (Rp.int .i64)))) λx=>(x.Den,x.Lines,x.Low,x.High)
theorem vY {F:Nat->Prop}{w:World}{cs:List Value}{x:eG}(h:dN.rd F w cs x): ∃v91,cs=[.int .i64 x.Den,v91,.int .i64 x.Low,.int .i64 x.High]/\SlF rO F w v91 x.Lines:=by
 obtain⟨_,_,rfl,rfl,⟨_,_,rfl,⟨v1,rfl,a⟩,⟨_,_,rfl,rfl,rfl⟩⟩⟩:=h;exact⟨v1,rfl,a⟩
structure eH where
 Track:Str
 Param:Str
 Meaning:List eG
 Long:Int
 deriving DecidableEq
def rX:Rp eH:=Rp.iso (Rp.pair Rp.str (Rp.pair Rp.str (Rp.pair (Rp.sl dN) (Rp.int .i64)))) λx=>(x.Track,x.Param,x.Meaning,x.Long)
theorem jF {F:Nat->Prop}{w:World}{cs:List Value}{x:eH}(h:rX.rd F w cs x): ∃a,cs=[.string (bs x.Track),.string (bs x.Param),a,.int .i64 x.Long]/\SlF dN F w a x.Meaning:=by
 obtain⟨_,_,rfl,rfl,⟨_,_,rfl,rfl,⟨_,_,rfl,⟨v2,rfl,b⟩,rfl⟩⟩⟩:=h;exact⟨v2,rfl,b⟩
structure gV where
 Number:Int
 Frame:Arr 64 Int
 States:Arr 64 Int
 Sound:Bool
 Copies:Int
 Conflict:Bool
 deriving DecidableEq
def aAr:Rp gV:=Rp.iso (Rp.pair (Rp.int .i64) (Rp.pair (Rp.fl (Fl.arr 64 (Fl.int .u16))) (Rp.pair (Rp.fl (Fl.arr 64 (Fl.int .i64))) (Rp.pair Rp.bool (Rp.pair (Rp.int .i64) Rp.bool))))) λx=>(x.Number,x.Frame,x.States,x.Sound,x.Copies,x.Conflict)
def qX:Fl gV:=Fl.iso (Fl.pair (Fl.int .i64) (Fl.pair (Fl.arr 64 (Fl.int .u16)) (Fl.pair (Fl.arr 64 (Fl.int .i64)) (Fl.pair Fl.bool (Fl.pair (Fl.int .i64) Fl.bool))))) λx=>(x.Number,x.Frame,x.States,x.Sound,x.Copies,x.Conflict)
theorem xI {F:Nat->Prop}{w:World}{cs:List Value}{x:gV}(h:aAr.rd F w cs x):cs=([.int .i64 x.Number]:List Value)++(((Fl.arr 64 (Fl.int .u16)).f x.Frame)++(((Fl.arr 64 (Fl.int .i64)).f x.States)++([.bool x.Sound,.int .i64 x.Copies,.bool x.Conflict]:List Value))):=by
 obtain⟨_,_,rfl,rfl,⟨_,_,rfl,rfl,⟨_,_,rfl,rfl,⟨_,_,rfl,rfl,⟨_,_,rfl,rfl,rfl⟩⟩⟩⟩⟩:=h;exact rfl
structure Book where
 Map:Map
 Sources:List eH
 Rests:List gV
 deriving DecidableEq
def rBook:Rp Book:=Rp.iso (Rp.pair rMap (Rp.pair (Rp.sl rX) (Rp.sl aAr))) λx=>(x.Map,x.Sources,x.Rests)
theorem aVa {F:Nat->Prop}{w:World}{cs:List Value}{x:Book}(h:rBook.rd F w cs x): ∃v93 a b,cs=[.int .i64 x.Map.Version,v93,a,b]/\SlF uT F w v93 x.Map.Params/\SlF rX F w a x.Sources/\SlF aAr F w b x.Rests:=by
 obtain⟨_,_,rfl,⟨_,_,rfl,rfl,⟨c,rfl,d⟩⟩,⟨_,_,rfl,⟨v1,rfl,e⟩,⟨v2,rfl,f⟩⟩⟩:=h;exact⟨c,v1,v2,rfl,d,e,f⟩
structure fG where
 Frame:Int
 Word:Int
 Low:Int
 Bits:Int
 deriving DecidableEq
def dC:Rp fG:=Rp.iso (Rp.pair (Rp.int .i64) (Rp.pair (Rp.int .i64) (Rp.pair (Rp.int .i64) (Rp.int .i64)))) λx=>(x.Frame,x.Word,x.Low,x.Bits)
theorem mM {F:Nat->Prop}{w:World}{cs:List Value}{x:fG}(h:dC.rd F w cs x):cs=[.int .i64 x.Frame,.int .i64 x.Word,.int .i64 x.Low,.int .i64 x.Bits]:=by
 obtain⟨_,_,rfl,rfl,⟨_,_,rfl,rfl,⟨_,_,rfl,rfl,rfl⟩⟩⟩:=h;exact rfl
theorem aJo {F:Nat->Prop}{w:World}{x:fG}:dC.rd F w [.int .i64 x.Frame,.int .i64 x.Word,.int .i64 x.Low,.int .i64 x.Bits] x:=⟨[_],_,rfl,rfl,⟨[_],_,rfl,rfl,⟨[_],_,rfl,rfl,rfl⟩⟩⟩
structure Cell where
 Param:Int
 Index:Int
 Frame:Int
 Places:List fG
 deriving DecidableEq
def dS:Rp Cell:=Rp.iso (Rp.pair (Rp.int .i64) (Rp.pair (Rp.int .i64) (Rp.pair (Rp.int .i64) (Rp.sl dC)))) λx=>(x.Param,x.Index,x.Frame,x.Places)
theorem kZ {F:Nat->Prop}{w:World}{cs:List Value}{x:Cell}(h:dS.rd F w cs x): ∃a,cs=[.int .i64 x.Param,.int .i64 x.Index,.int .i64 x.Frame,a]/\SlF dC F w a x.Places:=by
 obtain⟨_,_,rfl,rfl,⟨_,_,rfl,rfl,⟨_,_,rfl,rfl,⟨v3,rfl,b⟩⟩⟩⟩:=h;exact⟨v3,rfl,b⟩
theorem aLi {F:Nat->Prop}{w:World}{x:Cell}{v0:Value}(a:SlF dC F w v0 x.Places):dS.rd F w [.int .i64 x.Param,.int .i64 x.Index,.int .i64 x.Frame,v0] x:=⟨[_],_,rfl,rfl,⟨[_],_,rfl,rfl,⟨[_],_,rfl,rfl,⟨_,rfl,a⟩⟩⟩⟩
structure bT where
 Word:Int
 Kind:Int
 deriving DecidableEq
def rW:Rp bT:=Rp.iso (Rp.pair (Rp.int .i64) (Rp.int .i64)) λx=>(x.Word,x.Kind)
theorem aCa {F:Nat->Prop}{w:World}{x:bT}:rW.rd F w [.int .i64 x.Word,.int .i64 x.Kind] x:=⟨[_],_,rfl,rfl,rfl⟩
structure eU where
 At:Int
 N:Int
 Mark:Int
 deriving DecidableEq
def dI:Rp eU:=Rp.iso (Rp.pair (Rp.int .i64) (Rp.pair (Rp.int .i64) (Rp.int .i64))) λx=>(x.At,x.N,x.Mark)
theorem aBb {F:Nat->Prop}{w:World}{x:eU}:dI.rd F w [.int .i64 x.At,.int .i64 x.N,.int .i64 x.Mark] x:=⟨[_],_,rfl,rfl,⟨[_],_,rfl,rfl,rfl⟩⟩
structure jW where
 Den:Int
 Samples:List eU
 deriving DecidableEq
structure fC where
 Number:Int
 Word:Int
 deriving DecidableEq
def aT:Rp fC:=Rp.iso (Rp.pair (Rp.int .i64) (Rp.int .i64)) λx=>(x.Number,x.Word)
def aRn:Fl fC:=Fl.iso (Fl.pair (Fl.int .i64) (Fl.int .i64)) λx=>(x.Number,x.Word)
theorem aK {F:Nat->Prop}{w:World}{cs:List Value}{x:fC}(h:aT.rd F w cs x):cs=[.int .i64 x.Number,.int .i64 x.Word]:=by
 obtain⟨_,_,rfl,rfl,rfl⟩:=h;exact rfl
theorem aUp {F:Nat->Prop}{w:World}{x:fC}:aT.rd F w [.int .i64 x.Number,.int .i64 x.Word] x:=⟨[_],_,rfl,rfl,rfl⟩
structure fB where
 Rule:Str
 First:Int
 Number:Int
 Truth:Int
 Words:List fC
 deriving DecidableEq
def aBp:Rp fB:=Rp.iso (Rp.pair Rp.str (Rp.pair (Rp.int .i64) (Rp.pair (Rp.int .i64) (Rp.pair (Rp.int .i64) (Rp.sl aT))))) λx=>(x.Rule,x.First,x.Number,x.Truth,x.Words)
theorem jE {F:Nat->Prop}{w:World}{cs:List Value}{x:fB}(h:aBp.rd F w cs x): ∃a,cs=[.string (bs x.Rule),.int .i64 x.First,.int .i64 x.Number,.int .i64 x.Truth,a]/\SlF aT F w a x.Words:=by
 obtain⟨_,_,rfl,rfl,⟨_,_,rfl,rfl,⟨_,_,rfl,rfl,⟨_,_,rfl,rfl,⟨v4,rfl,b⟩⟩⟩⟩⟩:=h;exact⟨v4,rfl,b⟩
structure fA where
 frame:Int
 word:Int
 bit:Int
 deriving DecidableEq
def nY:Rp fA:=Rp.iso (Rp.pair (Rp.int .i64) (Rp.pair (Rp.int .i64) (Rp.int .i64))) λx=>(x.frame,x.word,x.bit)
def dJ:Fl fA:=Fl.iso (Fl.pair (Fl.int .i64) (Fl.pair (Fl.int .i64) (Fl.int .i64))) λx=>(x.frame,x.word,x.bit)
theorem aHx {F:Nat->Prop}{w:World}{cs:List Value}{x:fA}(h:nY.rd F w cs x):cs=[.int .i64 x.frame,.int .i64 x.word,.int .i64 x.bit]:=by
 obtain⟨_,_,rfl,rfl,⟨_,_,rfl,rfl,rfl⟩⟩:=h;exact rfl
theorem aLv {F:Nat->Prop}{w:World}{x:fA}:nY.rd F w [.int .i64 x.frame,.int .i64 x.word,.int .i64 x.bit] x:=⟨[_],_,rfl,rfl,⟨[_],_,rfl,rfl,rfl⟩⟩
structure gZ where
 out:List Int
 deriving DecidableEq
def jP:Rp gZ:=Rp.iso (Rp.sl (Rp.int .u8)) λx=>(x.out)
theorem aAn {F:Nat->Prop}{w:World}{cs:List Value}{x:gZ}(h:jP.rd F w cs x): ∃a,cs=[a]/\SlF (Rp.int .u8) F w a x.out:=by
 obtain⟨v0,rfl,b⟩:=h;exact⟨v0,rfl,b⟩
theorem aBx {F:Nat->Prop}{w:World}{x:gZ}{v0:Value}(a:SlF (Rp.int .u8) F w v0 x.out):jP.rd F w [v0] x:=⟨_,rfl,a⟩
structure aJs where
 at_:Int
 e:Int
 deriving DecidableEq
structure dQ where
 name:Bool
 other:Bool
 op:Bool
 n:Bool
 frames:Bool
 least:Int
 most:Int
 deriving DecidableEq
end Go.Lf
