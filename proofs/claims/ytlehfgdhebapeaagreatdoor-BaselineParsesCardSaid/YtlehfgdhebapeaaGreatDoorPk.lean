/- Walks: copies of entries, merging. -/
import Derived.Test.YtlehfgdhebapeaaGreatDoorPm
import Derived.Test.YtlehfgdhebapeaaGreatDoorPi
import Derived.Test.YtlehfgdhebapeaaGreatDoorA5
set_option linter.all false
namespace Go.Proofs.YtlehfgdhebapeaaGreatDoor.KM
open Go
end Go.Proofs.YtlehfgdhebapeaaGreatDoor.KM
