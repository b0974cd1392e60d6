/- Walks: the law BaselineLives. -/
import Derived.Test.YticpkkjnajmpoaaGreatDoorPq
set_option linter.all false
namespace Go.Proofs.YticpkkjnajmpoaaGreatDoor.KM
open Go
end Go.Proofs.YticpkkjnajmpoaaGreatDoor.KM
