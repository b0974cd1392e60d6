/- Walks: Update of baselines, the sites of its entries being lists of their own. -/
import Derived.Test.YtlehfgdhebapeaaGreatDoorYb
import Derived.Test.YtlehfgdhebapeaaGreatDoorPo
set_option linter.all false
namespace Go.Proofs.YtlehfgdhebapeaaGreatDoor.KM
open Go
end Go.Proofs.YtlehfgdhebapeaaGreatDoor.KM
