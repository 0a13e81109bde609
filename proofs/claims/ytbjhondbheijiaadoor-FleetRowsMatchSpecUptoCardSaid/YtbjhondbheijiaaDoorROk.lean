/- What arguments are in range. -/
import Derived.Test.YtbjhondbheijiaaDoorRP
import Derived.Test.YtbjhondbheijiaaDoorOpx
import Derived.Test.YtbjhondbheijiaaDoorPl
namespace Go.Lf
open Go.OB
def okFleetRow (x : FleetRow) : Prop := okS x.Key ∧ True ∧ i64 x.Flights ∧ okL (fun x => i64 x) x.Events
end Go.Lf
