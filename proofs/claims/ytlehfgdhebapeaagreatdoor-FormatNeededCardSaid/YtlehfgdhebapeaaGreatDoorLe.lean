/- Plain: the text of a shaped program is scanned and parsed as that program, apart from lines. -/
import Derived.Test.YtlehfgdhebapeaaGreatDoorLd
set_option linter.all false
namespace Go.Proofs.YtlehfgdhebapeaaGreatDoor.KM
open Go
/-! declarations -/
/-! threads -/
end Go.Proofs.YtlehfgdhebapeaaGreatDoor.KM
