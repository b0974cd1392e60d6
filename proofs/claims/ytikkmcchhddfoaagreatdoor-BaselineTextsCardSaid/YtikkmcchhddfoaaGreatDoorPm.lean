/- Lists of entries that are merged: plain. -/
import Derived.Test.YtikkmcchhddfoaaGreatDoorPd
set_option linter.all false
namespace Go.Proofs.YtikkmcchhddfoaaGreatDoor.KM
open Go
/-! entries that are added one by one -/
/-! changes -/
/-! a further run -/
end Go.Proofs.YtikkmcchhddfoaaGreatDoor.KM
