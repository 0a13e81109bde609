/- Contracts of the library at this program. -/
import Derived.Test.YthllgjnlmjpinaaGreatDoorXVb
import Derived.Shelf.Strconv.AtoiErr
namespace Go.Proofs.YthllgjnlmjpinaaGreatDoor.E
open Go.RowKit Go.OB Go.Lf Go.Sort Go.Shelf Go.Proofs

end Go.Proofs.YthllgjnlmjpinaaGreatDoor.E
