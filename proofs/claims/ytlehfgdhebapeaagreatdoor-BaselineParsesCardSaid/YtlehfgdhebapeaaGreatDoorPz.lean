/- Walks: lists of entries that are their own. -/
import Derived.Test.YtlehfgdhebapeaaGreatDoorPt
import Derived.Test.YtlehfgdhebapeaaGreatDoorYz
set_option linter.all false
namespace Go.Proofs.YtlehfgdhebapeaaGreatDoor.KM
open Go
end Go.Proofs.YtlehfgdhebapeaaGreatDoor.KM
