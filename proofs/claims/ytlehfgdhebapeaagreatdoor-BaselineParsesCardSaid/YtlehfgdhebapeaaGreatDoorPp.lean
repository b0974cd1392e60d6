/- Plain: baselines made of items are valid; what an update gives; comparing behind it. -/
import Derived.Test.YtlehfgdhebapeaaGreatDoorYc
set_option linter.all false
namespace Go.Proofs.YtlehfgdhebapeaaGreatDoor.KM
open Go
end Go.Proofs.YtlehfgdhebapeaaGreatDoor.KM
