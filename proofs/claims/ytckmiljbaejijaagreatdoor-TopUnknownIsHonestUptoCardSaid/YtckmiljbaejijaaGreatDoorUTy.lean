/- The types of data: how they lie in memory. -/
import Derived.Test.YtckmiljbaejijaaGreatDoorNdTy
namespace Go.Lf
open Go.RowKit Go.OB
structure EventToken where
  kind:Int
  at_:Int
  n:Int
  text:Str
  deriving DecidableEq
structure Cond where
  Kind:Int
  Name:Str
  Other:Str
  Op:Int
  N:Int
  Frames:Int
  Kids:List Cond
def rCondN:Nat→Rp Cond
  | 0=>Rp.bot 7
  | n+1=>Rp.iso (Rp.pair (Rp.int .i64) (Rp.pair Rp.str (Rp.pair Rp.str (Rp.pair (Rp.int .i64) (Rp.pair (Rp.int .i64) (Rp.pair (Rp.int .i64) (Rp.sl (rCondN n)))))))) fun x=>(x.Kind,x.Name,x.Other,x.Op,x.N,x.Frames,x.Kids)
theorem rCondN_sz: ∀n,(rCondN n).sz=7
  | 0=>rfl
  | _+1=>rfl
theorem rCondN_open {F:Nat→Prop}{w:World}{n:Nat}{cs:List Value}{x:Cond}(h:(rCondN (n+1)).rd F w cs x): ∃v0,cs= [.int .i64 x.Kind,.string (bs x.Name),.string (bs x.Other),.int .i64 x.Op,.int .i64 x.N,.int .i64 x.Frames,v0]∧SlF (rCondN n) F w v0 x.Kids:=by
  obtain ⟨_,_,rfl,rfl,⟨_,_,rfl,rfl,⟨_,_,rfl,rfl,⟨_,_,rfl,rfl,⟨_,_,rfl,rfl,⟨_,_,rfl,rfl,⟨v0,rfl,h0⟩⟩⟩⟩⟩⟩⟩:=h
  exact ⟨v0,rfl,h0⟩
theorem rCondN_mk {F:Nat→Prop}{w:World}{n:Nat}{x:Cond}{v0:Value}(h0:SlF (rCondN n) F w v0 x.Kids):(rCondN (n+1)).rd F w [.int .i64 x.Kind,.string (bs x.Name),.string (bs x.Other),.int .i64 x.Op,.int .i64 x.N,.int .i64 x.Frames,v0] x:=⟨[_],_,rfl,rfl,⟨[_],_,rfl,rfl,⟨[_],_,rfl,rfl,⟨[_],_,rfl,rfl,⟨[_],_,rfl,rfl,⟨[_],_,rfl,rfl,⟨_,rfl,h0⟩⟩⟩⟩⟩⟩⟩
theorem rCondN_up: ∀n,(rCondN n).le (rCondN (n+1))
  | 0=>⟨rfl,fun _ _ _ _ h=>h.elim⟩
  | n+1=>⟨rfl,fun F w cs x h=>by
    obtain ⟨v0,rfl,h0⟩:=rCondN_open h
    exact rCondN_mk (slf_le (rCondN_up n) h0)⟩
def fA:Rp Cond:=Rp.lim rCondN 7 rCondN_sz
theorem aF {F:Nat→Prop}{w:World}{cs:List Value}{x:Cond}(h:fA.rd F w cs x): ∃v0,cs= [.int .i64 x.Kind,.string (bs x.Name),.string (bs x.Other),.int .i64 x.Op,.int .i64 x.N,.int .i64 x.Frames,v0]∧SlF (fA) F w v0 x.Kids:=by
  obtain ⟨n,h⟩:=h
  cases n with
  | zero=>exact h.elim
  | succ n=>
    obtain ⟨v0,rfl,h0⟩:=rCondN_open h
    exact ⟨v0,rfl,slf_le (le_lim (h:=rCondN_sz) n) h0⟩
structure MoveT where
  From:Str
  To:Str
  When:Cond
def fD:Rp MoveT:=Rp.iso (Rp.pair Rp.str (Rp.pair Rp.str fA)) fun x=>(x.From,x.To,x.When)
theorem rMoveT_open {F:Nat→Prop}{w:World}{cs:List Value}{x:MoveT}(h:fD.rd F w cs x): ∃v240,cs= [.string (bs x.From),.string (bs x.To),.int .i64 x.When.Kind,.string (bs x.When.Name),.string (bs x.When.Other),.int .i64 x.When.Op,.int .i64 x.When.N,.int .i64 x.When.Frames,v240]∧SlF fA F w v240 x.When.Kids:=by
  obtain ⟨_,_,rfl,rfl,⟨_,_,rfl,rfl,r2⟩⟩:=h
  obtain ⟨v2_6,rfl,h2_6⟩:=aF r2
  exact ⟨v2_6,rfl,h2_6⟩
structure aY where
  Name:Str
  When:Cond
def fF:Rp aY:=Rp.iso (Rp.pair Rp.str fA) fun x=>(x.Name,x.When)
theorem rRule_open {F:Nat→Prop}{w:World}{cs:List Value}{x:aY}(h:fF.rd F w cs x): ∃v241,cs= [.string (bs x.Name),.int .i64 x.When.Kind,.string (bs x.When.Name),.string (bs x.When.Other),.int .i64 x.When.Op,.int .i64 x.When.N,.int .i64 x.When.Frames,v241]∧SlF fA F w v241 x.When.Kids:=by
  obtain ⟨_,_,rfl,rfl,r1⟩:=h
  obtain ⟨v1_6,rfl,h1_6⟩:=aF r1
  exact ⟨v1_6,rfl,h1_6⟩
structure Rules where
  Phases:List Str
  Moves:List MoveT
  Rules:List aY
def rRules:Rp Rules:=Rp.iso (Rp.pair (Rp.sl Rp.str) (Rp.pair (Rp.sl fD) (Rp.sl fF))) fun x=>(x.Phases,x.Moves,x.Rules)
theorem rRules_open {F:Nat→Prop}{w:World}{cs:List Value}{x:Rules}(h:rRules.rd F w cs x): ∃v242 v243 v244,cs= [v242,v243,v244]∧SlF Rp.str F w v242 x.Phases∧SlF fD F w v243 x.Moves∧SlF fF F w v244 x.Rules:=by
  obtain ⟨_,_,rfl,⟨v0,rfl,h0⟩,⟨_,_,rfl,⟨v1,rfl,h1⟩,⟨v2,rfl,h2⟩⟩⟩:=h
  exact ⟨v0,v1,v2,rfl,h0,h1,h2⟩
structure EventReader where
  text:Str
  at_:Int
  now:EventToken
  r:Rules
structure fJ where
  At:Int
  N:Int
  Mark:Int
  deriving DecidableEq
def fP:Rp fJ:=Rp.iso (Rp.pair (Rp.int .i64) (Rp.pair (Rp.int .i64) (Rp.int .i64))) fun x=>(x.At,x.N,x.Mark)
theorem dQ {F:Nat→Prop}{w:World}{cs:List Value}{x:fJ}(h:fP.rd F w cs x):cs= [.int .i64 x.At,.int .i64 x.N,.int .i64 x.Mark]:=by
  obtain ⟨_,_,rfl,rfl,⟨_,_,rfl,rfl,rfl⟩⟩:=h
  exact rfl
theorem rSample_mk {F:Nat→Prop}{w:World}{x:fJ}:fP.rd F w [.int .i64 x.At,.int .i64 x.N,.int .i64 x.Mark] x:=⟨[_],_,rfl,rfl,⟨[_],_,rfl,rfl,rfl⟩⟩
structure Series where
  Den:Int
  Samples:List fJ
  deriving DecidableEq
def rSeries:Rp Series:=Rp.iso (Rp.pair (Rp.int .i64) (Rp.sl fP)) fun x=>(x.Den,x.Samples)
structure gZ where
  Name:Str
  Series:Series
  Long:Int
  deriving DecidableEq
def fG:Rp gZ:=Rp.iso (Rp.pair Rp.str (Rp.pair rSeries (Rp.int .i64))) fun x=>(x.Name,x.Series,x.Long)
theorem kK {F:Nat→Prop}{w:World}{cs:List Value}{x:gZ}(h:fG.rd F w cs x): ∃v249,cs= [.string (bs x.Name),.int .i64 x.Series.Den,v249,.int .i64 x.Long]∧SlF fP F w v249 x.Series.Samples:=by
  obtain ⟨_,_,rfl,rfl,⟨_,_,rfl,⟨_,_,rfl,rfl,⟨v1_1,rfl,h1_1⟩⟩,rfl⟩⟩:=h
  exact ⟨v1_1,rfl,h1_1⟩
theorem rTrack_mk {F:Nat→Prop}{w:World}{x:gZ}{v0:Value}(h0:SlF fP F w v0 x.Series.Samples):fG.rd F w [.string (bs x.Name),.int .i64 x.Series.Den,v0,.int .i64 x.Long] x:=⟨[_],_,rfl,rfl,⟨[_,_],_,rfl,⟨[_],_,rfl,rfl,⟨_,rfl,h0⟩⟩,rfl⟩⟩
structure dB where
  name:Bool
  other:Bool
  op:Bool
  n:Bool
  frames:Bool
  least:Int
  most:Int
  deriving DecidableEq
structure fQ where
  tracks:List (Str×Int)
  dens:List Int
  phases:List Str
  rules:List (Str×Int)
structure gG where
  told:List fO
  possible:List Bool
  rules:List Int
  deriving DecidableEq
structure dR where
  out:List Int
  deriving DecidableEq
structure EventFault where
  at_:Int
  e:Int
  deriving DecidableEq
end Go.Lf
