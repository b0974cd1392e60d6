/- Lists of entries that are merged: plain. -/
import Derived.Test.YtlehfgdhebapeaaGreatDoorPd
set_option linter.all false
namespace Go.Proofs.YtlehfgdhebapeaaGreatDoor.KM
open Go
/-! entries that are added one by one -/
/-! changes -/
/-! a further run -/
end Go.Proofs.YtlehfgdhebapeaaGreatDoor.KM
