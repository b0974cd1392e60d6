/- Walks: Update of baselines, the sites of its entries being lists of their own. -/
import Derived.Test.YtikkmcchhddfoaaGreatDoorYb
import Derived.Test.YtikkmcchhddfoaaGreatDoorPo
set_option linter.all false
namespace Go.Proofs.YtikkmcchhddfoaaGreatDoor.KM
open Go
end Go.Proofs.YtikkmcchhddfoaaGreatDoor.KM
