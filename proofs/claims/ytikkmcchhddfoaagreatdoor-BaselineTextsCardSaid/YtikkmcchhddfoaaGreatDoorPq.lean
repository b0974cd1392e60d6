/- Walks: the law BaselineSettles. -/
import Derived.Test.YtikkmcchhddfoaaGreatDoorPp
import Derived.Test.YtikkmcchhddfoaaGreatDoorPf
set_option linter.all false
namespace Go.Proofs.YtikkmcchhddfoaaGreatDoor.KM
open Go
end Go.Proofs.YtikkmcchhddfoaaGreatDoor.KM
