/- token.IsName: the tie to what the machine knows. -/
import Derived.Test.YtlehfgdhebapeaaDoorNj
import Derived.Test.YtlehfgdhebapeaaDoorNa
set_option linter.all false

namespace Go.Proofs.YtlehfgdhebapeaaDoor.KM
open Go Go.RowKit
/-! IsKeyword -/
end Go.Proofs.YtlehfgdhebapeaaDoor.KM
