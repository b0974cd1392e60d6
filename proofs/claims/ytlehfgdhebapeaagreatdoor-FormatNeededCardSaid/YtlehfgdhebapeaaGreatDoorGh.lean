/- Walks: the program's texts of declarations and programs. -/
import Derived.Test.YtlehfgdhebapeaaGreatDoorGg
import Derived.Test.YtlehfgdhebapeaaGreatDoorGd
set_option linter.all false
namespace Go.Proofs.YtlehfgdhebapeaaGreatDoor.KM
open Go
end Go.Proofs.YtlehfgdhebapeaaGreatDoor.KM
