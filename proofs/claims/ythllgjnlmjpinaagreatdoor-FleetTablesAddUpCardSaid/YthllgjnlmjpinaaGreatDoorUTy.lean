/- The types of data: how they lie in memory. -/
import Derived.Test.YthllgjnlmjpinaaGreatDoorFrTy
namespace Go.Lf
open Go.RowKit Go.OB
structure fB where
  At:Int
  N:Int
  Mark:Int
  deriving DecidableEq
def fM:Rp fB:=Rp.iso (Rp.pair (Rp.int .i64) (Rp.pair (Rp.int .i64) (Rp.int .i64))) fun x=>(x.At,x.N,x.Mark)
theorem dY {F:Nat→Prop}{w:World}{cs:List Value}{x:fB}(h:fM.rd F w cs x):cs= [.int .i64 x.At,.int .i64 x.N,.int .i64 x.Mark]:=by
  obtain ⟨_,_,rfl,rfl,⟨_,_,rfl,rfl,rfl⟩⟩:=h
  exact rfl
theorem aOk {F:Nat→Prop}{w:World}{x:fB}:fM.rd F w [.int .i64 x.At,.int .i64 x.N,.int .i64 x.Mark] x:=⟨[_],_,rfl,rfl,⟨[_],_,rfl,rfl,rfl⟩⟩
structure Series where
  Den:Int
  Samples:List fB
  deriving DecidableEq
def aPo:Rp Series:=Rp.iso (Rp.pair (Rp.int .i64) (Rp.sl fM)) fun x=>(x.Den,x.Samples)
structure Track where
  Name:Str
  Series:Series
  Long:Int
  deriving DecidableEq
def fF:Rp Track:=Rp.iso (Rp.pair Rp.str (Rp.pair aPo (Rp.int .i64))) fun x=>(x.Name,x.Series,x.Long)
theorem bY {F:Nat→Prop}{w:World}{cs:List Value}{x:Track}(h:fF.rd F w cs x): ∃v1380,cs= [.string (bs x.Name),.int .i64 x.Series.Den,v1380,.int .i64 x.Long]∧SlF fM F w v1380 x.Series.Samples:=by
  obtain ⟨_,_,rfl,rfl,⟨_,_,rfl,⟨_,_,rfl,rfl,⟨v1_1,rfl,h1_1⟩⟩,rfl⟩⟩:=h
  exact ⟨v1_1,rfl,h1_1⟩
theorem uI {F:Nat→Prop}{w:World}{x:Track}{v0:Value}(h0:SlF fM F w v0 x.Series.Samples):fF.rd F w [.string (bs x.Name),.int .i64 x.Series.Den,v0,.int .i64 x.Long] x:=⟨[_],_,rfl,rfl,⟨[_,_],_,rfl,⟨[_],_,rfl,rfl,⟨_,rfl,h0⟩⟩,rfl⟩⟩
structure Flight where
  Tail:Str
  Route:Str
  Day:Int
  From:Int
  To:Int
  Tracks:List Track
  deriving DecidableEq
def aB:Rp Flight:=Rp.iso (Rp.pair Rp.str (Rp.pair Rp.str (Rp.pair (Rp.int .i64) (Rp.pair (Rp.int .i64) (Rp.pair (Rp.int .i64) (Rp.sl fF)))))) fun x=>(x.Tail,x.Route,x.Day,x.From,x.To,x.Tracks)
theorem wZ {F:Nat→Prop}{w:World}{cs:List Value}{x:Flight}(h:aB.rd F w cs x): ∃v1381,cs= [.string (bs x.Tail),.string (bs x.Route),.int .i64 x.Day,.int .i64 x.From,.int .i64 x.To,v1381]∧SlF fF F w v1381 x.Tracks:=by
  obtain ⟨_,_,rfl,rfl,⟨_,_,rfl,rfl,⟨_,_,rfl,rfl,⟨_,_,rfl,rfl,⟨_,_,rfl,rfl,⟨v5,rfl,h5⟩⟩⟩⟩⟩⟩:=h
  exact ⟨v5,rfl,h5⟩
structure Cond where
  Kind:Int
  Name:Str
  Other:Str
  Op:Int
  N:Int
  Frames:Int
  Kids:List Cond
def pM:Nat→Rp Cond
  | 0=>Rp.bot 7
  | n+1=>Rp.iso (Rp.pair (Rp.int .i64) (Rp.pair Rp.str (Rp.pair Rp.str (Rp.pair (Rp.int .i64) (Rp.pair (Rp.int .i64) (Rp.pair (Rp.int .i64) (Rp.sl (pM n)))))))) fun x=>(x.Kind,x.Name,x.Other,x.Op,x.N,x.Frames,x.Kids)
theorem aGp: ∀n,(pM n).sz=7
  | 0=>rfl
  | _+1=>rfl
theorem aCi {F:Nat→Prop}{w:World}{n:Nat}{cs:List Value}{x:Cond}(h:(pM (n+1)).rd F w cs x): ∃v0,cs= [.int .i64 x.Kind,.string (bs x.Name),.string (bs x.Other),.int .i64 x.Op,.int .i64 x.N,.int .i64 x.Frames,v0]∧SlF (pM n) F w v0 x.Kids:=by
  obtain ⟨_,_,rfl,rfl,⟨_,_,rfl,rfl,⟨_,_,rfl,rfl,⟨_,_,rfl,rfl,⟨_,_,rfl,rfl,⟨_,_,rfl,rfl,⟨v0,rfl,h0⟩⟩⟩⟩⟩⟩⟩:=h
  exact ⟨v0,rfl,h0⟩
theorem rCondN_mk {F:Nat→Prop}{w:World}{n:Nat}{x:Cond}{v0:Value}(h0:SlF (pM n) F w v0 x.Kids):(pM (n+1)).rd F w [.int .i64 x.Kind,.string (bs x.Name),.string (bs x.Other),.int .i64 x.Op,.int .i64 x.N,.int .i64 x.Frames,v0] x:=⟨[_],_,rfl,rfl,⟨[_],_,rfl,rfl,⟨[_],_,rfl,rfl,⟨[_],_,rfl,rfl,⟨[_],_,rfl,rfl,⟨[_],_,rfl,rfl,⟨_,rfl,h0⟩⟩⟩⟩⟩⟩⟩
theorem aGm: ∀n,(pM n).le (pM (n+1))
  | 0=>⟨rfl,fun _ _ _ _ h=>h.elim⟩
  | n+1=>⟨rfl,fun F w cs x h=>by
    obtain ⟨v0,rfl,h0⟩:=aCi h
    exact rCondN_mk (slf_le (aGm n) h0)⟩
def fO:Rp Cond:=Rp.lim pM 7 aGp
theorem aY {F:Nat→Prop}{w:World}{cs:List Value}{x:Cond}(h:fO.rd F w cs x): ∃v0,cs= [.int .i64 x.Kind,.string (bs x.Name),.string (bs x.Other),.int .i64 x.Op,.int .i64 x.N,.int .i64 x.Frames,v0]∧SlF (fO) F w v0 x.Kids:=by
  obtain ⟨n,h⟩:=h
  cases n with
  | zero=>exact h.elim
  | succ n=>
    obtain ⟨v0,rfl,h0⟩:=aCi h
    exact ⟨v0,rfl,slf_le (le_lim (h:=aGp) n) h0⟩
structure mM where
  From:Str
  To:Str
  When:Cond
def fP:Rp mM:=Rp.iso (Rp.pair Rp.str (Rp.pair Rp.str fO)) fun x=>(x.From,x.To,x.When)
theorem sS {F:Nat→Prop}{w:World}{cs:List Value}{x:mM}(h:fP.rd F w cs x): ∃v1382,cs= [.string (bs x.From),.string (bs x.To),.int .i64 x.When.Kind,.string (bs x.When.Name),.string (bs x.When.Other),.int .i64 x.When.Op,.int .i64 x.When.N,.int .i64 x.When.Frames,v1382]∧SlF fO F w v1382 x.When.Kids:=by
  obtain ⟨_,_,rfl,rfl,⟨_,_,rfl,rfl,r2⟩⟩:=h
  obtain ⟨v2_6,rfl,h2_6⟩:=aY r2
  exact ⟨v2_6,rfl,h2_6⟩
structure kR where
  Name:Str
  When:Cond
def fZ:Rp kR:=Rp.iso (Rp.pair Rp.str fO) fun x=>(x.Name,x.When)
theorem qV {F:Nat→Prop}{w:World}{cs:List Value}{x:kR}(h:fZ.rd F w cs x): ∃v1383,cs= [.string (bs x.Name),.int .i64 x.When.Kind,.string (bs x.When.Name),.string (bs x.When.Other),.int .i64 x.When.Op,.int .i64 x.When.N,.int .i64 x.When.Frames,v1383]∧SlF fO F w v1383 x.When.Kids:=by
  obtain ⟨_,_,rfl,rfl,r1⟩:=h
  obtain ⟨v1_6,rfl,h1_6⟩:=aY r1
  exact ⟨v1_6,rfl,h1_6⟩
structure Rules where
  Phases:List Str
  Moves:List mM
  Rules:List kR
def rRules:Rp Rules:=Rp.iso (Rp.pair (Rp.sl Rp.str) (Rp.pair (Rp.sl fP) (Rp.sl fZ))) fun x=>(x.Phases,x.Moves,x.Rules)
theorem aLj {F:Nat→Prop}{w:World}{cs:List Value}{x:Rules}(h:rRules.rd F w cs x): ∃v1384 v1385 v1386,cs= [v1384,v1385,v1386]∧SlF Rp.str F w v1384 x.Phases∧SlF fP F w v1385 x.Moves∧SlF fZ F w v1386 x.Rules:=by
  obtain ⟨_,_,rfl,⟨v0,rfl,h0⟩,⟨_,_,rfl,⟨v1,rfl,h1⟩,⟨v2,rfl,h2⟩⟩⟩:=h
  exact ⟨v0,v1,v2,rfl,h0,h1,h2⟩
structure dU where
  Track:Str
  N:Int
  deriving DecidableEq
def dJ:Rp dU:=Rp.iso (Rp.pair Rp.str (Rp.int .i64)) fun x=>(x.Track,x.N)
theorem sH {F:Nat→Prop}{w:World}{cs:List Value}{x:dU}(h:dJ.rd F w cs x):cs= [.string (bs x.Track),.int .i64 x.N]:=by
  obtain ⟨_,_,rfl,rfl,rfl⟩:=h
  exact rfl
structure Mask where
  Tails:Bool
  Days:Int
  Hide:List Str
  Grains:List dU
  Least:Int
  deriving DecidableEq
def rMask:Rp Mask:=Rp.iso (Rp.pair Rp.bool (Rp.pair (Rp.int .i64) (Rp.pair (Rp.sl Rp.str) (Rp.pair (Rp.sl dJ) (Rp.int .i64))))) fun x=>(x.Tails,x.Days,x.Hide,x.Grains,x.Least)
theorem aNn {F:Nat→Prop}{w:World}{cs:List Value}{x:Mask}(h:rMask.rd F w cs x): ∃v1387 v1388,cs= [.bool x.Tails,.int .i64 x.Days,v1387,v1388,.int .i64 x.Least]∧SlF Rp.str F w v1387 x.Hide∧SlF dJ F w v1388 x.Grains:=by
  obtain ⟨_,_,rfl,rfl,⟨_,_,rfl,rfl,⟨_,_,rfl,⟨v2,rfl,h2⟩,⟨_,_,rfl,⟨v3,rfl,h3⟩,rfl⟩⟩⟩⟩:=h
  exact ⟨v2,v3,rfl,h2,h3⟩
structure dE where
  name:Bool
  other:Bool
  op:Bool
  n:Bool
  frames:Bool
  least:Int
  most:Int
  deriving DecidableEq
structure fU where
  tracks:List (Str×Int)
  dens:List Int
  phases:List Str
  rules:List (Str×Int)
structure gJ where
  told:List eQ
  possible:List Bool
  rules:List Int
  deriving DecidableEq
structure gI where
  out:List Int
  deriving DecidableEq
def aP:Rp gI:=Rp.iso (Rp.sl (Rp.int .u8)) fun x=>(x.out)
theorem qX {F:Nat→Prop}{w:World}{cs:List Value}{x:gI}(h:aP.rd F w cs x): ∃v1392,cs= [v1392]∧SlF (Rp.int .u8) F w v1392 x.out:=by
  obtain ⟨v0,rfl,h0⟩:=h
  exact ⟨v0,rfl,h0⟩
theorem tJ {F:Nat→Prop}{w:World}{x:gI}{v0:Value}(h0:SlF (Rp.int .u8) F w v0 x.out):aP.rd F w [v0] x:=⟨_,rfl,h0⟩
structure FleetPeaks where
  l:List Int
  flights:List Int
  den:Int
  deriving DecidableEq
structure Ratio where
  Num:Int
  Den:Int
  deriving DecidableEq
end Go.Lf
