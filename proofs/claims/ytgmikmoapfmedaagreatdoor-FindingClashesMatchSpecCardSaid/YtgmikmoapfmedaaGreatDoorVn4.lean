/- Flights and peaks: both programs tell them alike. -/
import Derived.Test.YtgmikmoapfmedaaGreatDoorVn3
namespace Go.Lf
def tZ (l:List gW):Int:=(xZ l).getD 0
theorem aEc (l:List gW):xZ l=some (tZ l):=by obtain ⟨r,h⟩:=trkF_some l; unfold tZ; rw [h]; rfl
end Go.Lf
