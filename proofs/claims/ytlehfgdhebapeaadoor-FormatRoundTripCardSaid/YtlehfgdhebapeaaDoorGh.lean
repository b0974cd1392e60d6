/- Walks: the program's texts of declarations and programs. -/
import Derived.Test.YtlehfgdhebapeaaDoorGg
import Derived.Test.YtlehfgdhebapeaaDoorGd
set_option linter.all false
namespace Go.Proofs.YtlehfgdhebapeaaDoor.KM
open Go
end Go.Proofs.YtlehfgdhebapeaaDoor.KM
