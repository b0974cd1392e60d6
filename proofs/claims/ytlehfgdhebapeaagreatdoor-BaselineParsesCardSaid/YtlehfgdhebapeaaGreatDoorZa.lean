/- Walks: entries inserted into a list whose rows name lists of their own. -/
import Derived.Test.YtlehfgdhebapeaaGreatDoorYb
import Derived.Test.YtlehfgdhebapeaaGreatDoorPz
set_option linter.all false
namespace Go.Proofs.YtlehfgdhebapeaaGreatDoor.KM
open Go
end Go.Proofs.YtlehfgdhebapeaaGreatDoor.KM
