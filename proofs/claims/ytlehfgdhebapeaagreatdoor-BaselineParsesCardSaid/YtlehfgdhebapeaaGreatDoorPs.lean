/- Walks: the law BaselineLives. -/
import Derived.Test.YtlehfgdhebapeaaGreatDoorPq
set_option linter.all false
namespace Go.Proofs.YtlehfgdhebapeaaGreatDoor.KM
open Go
end Go.Proofs.YtlehfgdhebapeaaGreatDoor.KM
