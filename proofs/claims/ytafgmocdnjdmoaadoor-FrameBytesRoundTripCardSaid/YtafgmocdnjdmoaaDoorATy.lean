/- The types of data: how they lie in memory. -/
import Derived.Test.YtafgmocdnjdmoaaDoorLf7
namespace Go.Lf
open Go.RowKit Go.OB
structure Flaw where
  Word : Int
  Kind : Int
  deriving DecidableEq
def rFlaw : Rp Flaw := Rp.iso (Rp.pair (Rp.int .i64) (Rp.int .i64)) fun x => (x.Word, x.Kind)
def flFlaw : Fl Flaw := Fl.iso (Fl.pair (Fl.int .i64) (Fl.int .i64)) fun x => (x.Word, x.Kind)
theorem rFlaw_open {F : Nat → Prop} {w : World} {cs : List Value} {x : Flaw} (h : rFlaw.rd F w cs x) : cs = [.int .i64 x.Word, .int .i64 x.Kind] := by
  obtain ⟨_, _, rfl, rfl, rfl⟩ := h
  exact rfl
theorem rFlaw_mk {F : Nat → Prop} {w : World} {x : Flaw} : rFlaw.rd F w [.int .i64 x.Word, .int .i64 x.Kind] x := ⟨[_], _, rfl, rfl, rfl⟩
end Go.Lf
