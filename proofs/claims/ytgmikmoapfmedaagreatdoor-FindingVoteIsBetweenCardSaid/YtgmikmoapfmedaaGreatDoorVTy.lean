/- The types of data: how they lie in memory. -/
import Derived.Test.YtgmikmoapfmedaaGreatDoorXVj
namespace Go.Lf
open Go.RowKit Go.OB
structure gQ where
  kind:Int
  at_:Int
  n:Int
  text:Str
  deriving DecidableEq
def aBd:Rp gQ:=Rp.iso (Rp.pair (Rp.int .i64) (Rp.pair (Rp.int .i64) (Rp.pair (Rp.int .i64) Rp.str))) fun x=>(x.kind,x.at_,x.n,x.text)
structure Cond where
  Kind:Int
  Name:Str
  Other:Str
  Op:Int
  N:Int
  Frames:Int
  Kids:List Cond
def mF:Nat→Rp Cond
  | 0=>Rp.bot 7
  | n+1=>Rp.iso (Rp.pair (Rp.int .i64) (Rp.pair Rp.str (Rp.pair Rp.str (Rp.pair (Rp.int .i64) (Rp.pair (Rp.int .i64) (Rp.pair (Rp.int .i64) (Rp.sl (mF n)))))))) fun x=>(x.Kind,x.Name,x.Other,x.Op,x.N,x.Frames,x.Kids)
theorem vP: ∀n,(mF n).sz=7
  | 0=>rfl
  | _+1=>rfl
theorem rJ {F:Nat→Prop}{w:World}{n:Nat}{cs:List Value}{x:Cond}(h:(mF (n+1)).rd F w cs x): ∃v0,cs= [.int .i64 x.Kind,.string (bs x.Name),.string (bs x.Other),.int .i64 x.Op,.int .i64 x.N,.int .i64 x.Frames,v0]∧SlF (mF n) F w v0 x.Kids:=by
  obtain ⟨_,_,rfl,rfl,⟨_,_,rfl,rfl,⟨_,_,rfl,rfl,⟨_,_,rfl,rfl,⟨_,_,rfl,rfl,⟨_,_,rfl,rfl,⟨v0,rfl,h0⟩⟩⟩⟩⟩⟩⟩:=h
  exact ⟨v0,rfl,h0⟩
theorem vS {F:Nat→Prop}{w:World}{n:Nat}{x:Cond}{v0:Value}(h0:SlF (mF n) F w v0 x.Kids):(mF (n+1)).rd F w [.int .i64 x.Kind,.string (bs x.Name),.string (bs x.Other),.int .i64 x.Op,.int .i64 x.N,.int .i64 x.Frames,v0] x:=⟨[_],_,rfl,rfl,⟨[_],_,rfl,rfl,⟨[_],_,rfl,rfl,⟨[_],_,rfl,rfl,⟨[_],_,rfl,rfl,⟨[_],_,rfl,rfl,⟨_,rfl,h0⟩⟩⟩⟩⟩⟩⟩
theorem vY: ∀n,(mF n).le (mF (n+1))
  | 0=>⟨rfl,fun _ _ _ _ h=>h.elim⟩
  | n+1=>⟨rfl,fun F w cs x h=>by
    obtain ⟨v0,rfl,h0⟩:=rJ h
    exact vS (slf_le (vY n) h0)⟩
def fM:Rp Cond:=Rp.lim mF 7 vP
theorem nZ {F:Nat→Prop}{w:World}{cs:List Value}{x:Cond}(h:fM.rd F w cs x): ∃v0,cs= [.int .i64 x.Kind,.string (bs x.Name),.string (bs x.Other),.int .i64 x.Op,.int .i64 x.N,.int .i64 x.Frames,v0]∧SlF (fM) F w v0 x.Kids:=by
  obtain ⟨n,h⟩:=h
  cases n with
  | zero=>exact h.elim
  | succ n=>
    obtain ⟨v0,rfl,h0⟩:=rJ h
    exact ⟨v0,rfl,slf_le (le_lim (h:=vP) n) h0⟩
theorem uI {F:Nat→Prop}{w:World}{x:Cond}{v0:Value}(h0:SlF (fM) F w v0 x.Kids):fM.rd F w [.int .i64 x.Kind,.string (bs x.Name),.string (bs x.Other),.int .i64 x.Op,.int .i64 x.N,.int .i64 x.Frames,v0] x:=by
  obtain ⟨n,h0⟩:=slf_lim vY h0
  exact ⟨n+1,vS h0⟩
structure tV where
  From:Str
  To:Str
  When:Cond
def gX:Rp tV:=Rp.iso (Rp.pair Rp.str (Rp.pair Rp.str fM)) fun x=>(x.From,x.To,x.When)
structure aP where
  Name:Str
  When:Cond
def gY:Rp aP:=Rp.iso (Rp.pair Rp.str fM) fun x=>(x.Name,x.When)
theorem aI {F:Nat→Prop}{w:World}{cs:List Value}{x:aP}(h:gY.rd F w cs x): ∃v5896,cs= [.string (bs x.Name),.int .i64 x.When.Kind,.string (bs x.When.Name),.string (bs x.When.Other),.int .i64 x.When.Op,.int .i64 x.When.N,.int .i64 x.When.Frames,v5896]∧SlF fM F w v5896 x.When.Kids:=by
  obtain ⟨_,_,rfl,rfl,r1⟩:=h
  obtain ⟨v1_6,rfl,h1_6⟩:=nZ r1
  exact ⟨v1_6,rfl,h1_6⟩
theorem aBc {F:Nat→Prop}{w:World}{x:aP}{v0:Value}(h0:SlF fM F w v0 x.When.Kids):gY.rd F w [.string (bs x.Name),.int .i64 x.When.Kind,.string (bs x.When.Name),.string (bs x.When.Other),.int .i64 x.When.Op,.int .i64 x.When.N,.int .i64 x.When.Frames,v0] x:=⟨[_],_,rfl,rfl,(uI h0)⟩
structure Rules where
  Phases:List Str
  Moves:List tV
  Rules:List aP
def rRules:Rp Rules:=Rp.iso (Rp.pair (Rp.sl Rp.str) (Rp.pair (Rp.sl gX) (Rp.sl gY))) fun x=>(x.Phases,x.Moves,x.Rules)
structure gB where
  text:Str
  at_:Int
  now:gQ
  r:Rules
def eG:Rp gB:=Rp.iso (Rp.pair Rp.str (Rp.pair (Rp.int .i64) (Rp.pair aBd rRules))) fun x=>(x.text,x.at_,x.now,x.r)
theorem bJ {F:Nat→Prop}{w:World}{cs:List Value}{x:gB}(h:eG.rd F w cs x): ∃v5900 v5901 v5902,cs= [.string (bs x.text),.int .i64 x.at_,.int .i64 x.now.kind,.int .i64 x.now.at_,.int .i64 x.now.n,.string (bs x.now.text),v5900,v5901,v5902]∧SlF Rp.str F w v5900 x.r.Phases∧SlF gX F w v5901 x.r.Moves∧SlF gY F w v5902 x.r.Rules:=by
  obtain ⟨_,_,rfl,rfl,⟨_,_,rfl,rfl,⟨_,_,rfl,⟨_,_,rfl,rfl,⟨_,_,rfl,rfl,⟨_,_,rfl,rfl,rfl⟩⟩⟩,⟨_,_,rfl,⟨v3_0,rfl,h3_0⟩,⟨_,_,rfl,⟨v3_1,rfl,h3_1⟩,⟨v3_2,rfl,h3_2⟩⟩⟩⟩⟩⟩:=h
  exact ⟨v3_0,v3_1,v3_2,rfl,h3_0,h3_1,h3_2⟩
theorem dJ {F:Nat→Prop}{w:World}{x:gB}{v0:Value}{v1:Value}{v2:Value}(h0:SlF Rp.str F w v0 x.r.Phases)(h1:SlF gX F w v1 x.r.Moves)(h2:SlF gY F w v2 x.r.Rules):eG.rd F w [.string (bs x.text),.int .i64 x.at_,.int .i64 x.now.kind,.int .i64 x.now.at_,.int .i64 x.now.n,.string (bs x.now.text),v0,v1,v2] x:=⟨[_],_,rfl,rfl,⟨[_],_,rfl,rfl,⟨[_,_,_,_],_,rfl,⟨[_],_,rfl,rfl,⟨[_],_,rfl,rfl,⟨[_],_,rfl,rfl,rfl⟩⟩⟩,⟨[_],_,rfl,⟨_,rfl,h0⟩,⟨[_],_,rfl,⟨_,rfl,h1⟩,⟨_,rfl,h2⟩⟩⟩⟩⟩⟩
structure fC where
  At:Int
  N:Int
  Mark:Int
  deriving DecidableEq
def gW:Rp fC:=Rp.iso (Rp.pair (Rp.int .i64) (Rp.pair (Rp.int .i64) (Rp.int .i64))) fun x=>(x.At,x.N,x.Mark)
def aBy:Fl fC:=Fl.iso (Fl.pair (Fl.int .i64) (Fl.pair (Fl.int .i64) (Fl.int .i64))) fun x=>(x.At,x.N,x.Mark)
theorem xW {F:Nat→Prop}{w:World}{cs:List Value}{x:fC}(h:gW.rd F w cs x):cs= [.int .i64 x.At,.int .i64 x.N,.int .i64 x.Mark]:=by
  obtain ⟨_,_,rfl,rfl,⟨_,_,rfl,rfl,rfl⟩⟩:=h
  exact rfl
theorem aCn {F:Nat→Prop}{w:World}{x:fC}:gW.rd F w [.int .i64 x.At,.int .i64 x.N,.int .i64 x.Mark] x:=⟨[_],_,rfl,rfl,⟨[_],_,rfl,rfl,rfl⟩⟩
structure Series where
  Den:Int
  Samples:List fC
  deriving DecidableEq
def aEh:Rp Series:=Rp.iso (Rp.pair (Rp.int .i64) (Rp.sl gW)) fun x=>(x.Den,x.Samples)
structure gV where
  Name:Str
  Series:Series
  Long:Int
  deriving DecidableEq
def fD:Rp gV:=Rp.iso (Rp.pair Rp.str (Rp.pair aEh (Rp.int .i64))) fun x=>(x.Name,x.Series,x.Long)
theorem xR {F:Nat→Prop}{w:World}{cs:List Value}{x:gV}(h:fD.rd F w cs x): ∃v5904,cs= [.string (bs x.Name),.int .i64 x.Series.Den,v5904,.int .i64 x.Long]∧SlF gW F w v5904 x.Series.Samples:=by
  obtain ⟨_,_,rfl,rfl,⟨_,_,rfl,⟨_,_,rfl,rfl,⟨v1_1,rfl,h1_1⟩⟩,rfl⟩⟩:=h
  exact ⟨v1_1,rfl,h1_1⟩
theorem rTrack_mk {F:Nat→Prop}{w:World}{x:gV}{v0:Value}(h0:SlF gW F w v0 x.Series.Samples):fD.rd F w [.string (bs x.Name),.int .i64 x.Series.Den,v0,.int .i64 x.Long] x:=⟨[_],_,rfl,rfl,⟨[_,_],_,rfl,⟨[_],_,rfl,rfl,⟨_,rfl,h0⟩⟩,rfl⟩⟩
structure Twins where
  A:Str
  B:Str
  Most:Int
  deriving DecidableEq
structure bF where
  out:List Int
  deriving DecidableEq
structure Clash where
  Twins:Int
  From:Int
  To:Int
  deriving DecidableEq
structure fG where
  N:Int
  Known:Bool
  deriving DecidableEq
def dK:Rp fG:=Rp.iso (Rp.pair (Rp.int .i64) Rp.bool) fun x=>(x.N,x.Known)
theorem jA {F:Nat→Prop}{w:World}{cs:List Value}{x:fG}(h:dK.rd F w cs x):cs= [.int .i64 x.N,.bool x.Known]:=by
  obtain ⟨_,_,rfl,rfl,rfl⟩:=h
  exact rfl
theorem vX {F:Nat→Prop}{w:World}{x:fG}:dK.rd F w [.int .i64 x.N,.bool x.Known] x:=⟨[_],_,rfl,rfl,rfl⟩
structure aDo where
  neg:Bool
  high:Int
  low:Int
  deriving DecidableEq
structure sV where
  at_:Int
  e:Int
  deriving DecidableEq
structure mW where
  name:Bool
  other:Bool
  op:Bool
  n:Bool
  frames:Bool
  least:Int
  most:Int
  deriving DecidableEq
end Go.Lf
