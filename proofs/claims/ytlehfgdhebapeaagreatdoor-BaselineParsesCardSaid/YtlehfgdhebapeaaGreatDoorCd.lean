/- Items, out of what a row reads. -/
import Derived.Test.YtlehfgdhebapeaaGreatDoorCc
import Derived.Test.YtlehfgdhebapeaaGreatDoorPe
set_option linter.all false
namespace Go.Proofs.YtlehfgdhebapeaaGreatDoor
open Go.ChangeShapes Go.WideShapes Go.ChangeAt Go.RowKit KM
end Go.Proofs.YtlehfgdhebapeaaGreatDoor
