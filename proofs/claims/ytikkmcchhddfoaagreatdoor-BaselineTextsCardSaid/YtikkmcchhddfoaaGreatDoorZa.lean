/- Walks: entries inserted into a list whose rows name lists of their own. -/
import Derived.Test.YtikkmcchhddfoaaGreatDoorYb
import Derived.Test.YtikkmcchhddfoaaGreatDoorPz
set_option linter.all false
namespace Go.Proofs.YtikkmcchhddfoaaGreatDoor.KM
open Go
end Go.Proofs.YtikkmcchhddfoaaGreatDoor.KM
