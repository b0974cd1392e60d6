/- Walks: lists of entries that are their own. -/
import Derived.Test.YtikkmcchhddfoaaGreatDoorPt
import Derived.Test.YtikkmcchhddfoaaGreatDoorYz
set_option linter.all false
namespace Go.Proofs.YtikkmcchhddfoaaGreatDoor.KM
open Go
end Go.Proofs.YtikkmcchhddfoaaGreatDoor.KM
