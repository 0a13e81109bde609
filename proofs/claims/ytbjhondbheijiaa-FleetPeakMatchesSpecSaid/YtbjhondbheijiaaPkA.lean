/- What the walks and the laws stand on; no condition but those that stand in the statements. -/
import Derived.Test.YtbjhondbheijiaaQP
import Derived.Test.YtbjhondbheijiaaPl
namespace Go.Lf
theorem totals_ok : F_law9_totals = some true := by decide +kernel
end Go.Lf
