/- Walks: the law BaselineSettles. -/
import Derived.Test.YtlehfgdhebapeaaGreatDoorPp
import Derived.Test.YtlehfgdhebapeaaGreatDoorPf
set_option linter.all false
namespace Go.Proofs.YtlehfgdhebapeaaGreatDoor.KM
open Go
end Go.Proofs.YtlehfgdhebapeaaGreatDoor.KM
