/- Walks: scene.Entries and scene.Baseline, the sites of their entries being lists of their own. -/
import Derived.Test.YtikkmcchhddfoaaGreatDoorZb
import Derived.Test.YtikkmcchhddfoaaGreatDoorPf
set_option linter.all false
namespace Go.Proofs.YtikkmcchhddfoaaGreatDoor.KM
open Go
end Go.Proofs.YtikkmcchhddfoaaGreatDoor.KM
