/- Plain: baselines made of items are valid; what an update gives; comparing behind it. -/
import Derived.Test.YtikkmcchhddfoaaGreatDoorYc
set_option linter.all false
namespace Go.Proofs.YtikkmcchhddfoaaGreatDoor.KM
open Go
end Go.Proofs.YtikkmcchhddfoaaGreatDoor.KM
