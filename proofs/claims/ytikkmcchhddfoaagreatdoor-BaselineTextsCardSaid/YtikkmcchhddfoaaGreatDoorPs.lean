/- Walks: the law BaselineLives. -/
import Derived.Test.YtikkmcchhddfoaaGreatDoorPq
set_option linter.all false
namespace Go.Proofs.YtikkmcchhddfoaaGreatDoor.KM
open Go
end Go.Proofs.YtikkmcchhddfoaaGreatDoor.KM
