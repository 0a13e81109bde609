/- Lists of integers in order. -/
import Derived.Test.YthllgjnlmjpinaaGreatDoorLfP
namespace Go.Lf
end Go.Lf
