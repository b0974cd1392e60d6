/- Walks: copies of entries, merging. -/
import Derived.Test.YtikkmcchhddfoaaGreatDoorPm
import Derived.Test.YtikkmcchhddfoaaGreatDoorPi
import Derived.Test.YtikkmcchhddfoaaGreatDoorA5
set_option linter.all false
namespace Go.Proofs.YtikkmcchhddfoaaGreatDoor.KM
open Go
end Go.Proofs.YtikkmcchhddfoaaGreatDoor.KM
