/- Walks: scene.Entries and scene.Baseline, the sites of their entries being lists of their own. -/
import Derived.Test.YtlehfgdhebapeaaGreatDoorZb
import Derived.Test.YtlehfgdhebapeaaGreatDoorPf
set_option linter.all false
namespace Go.Proofs.YtlehfgdhebapeaaGreatDoor.KM
open Go
end Go.Proofs.YtlehfgdhebapeaaGreatDoor.KM
