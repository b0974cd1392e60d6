/- awake answers true: by a run of the plain machine in the kernel. -/
import Derived.Test.YtlehfgdhebapeaaGreatDoorNu
set_option linter.all false
namespace Go.Proofs.YtlehfgdhebapeaaGreatDoor.KM
open Go
theorem awake_run : ((bodyF (runD TT PT 3000) af21 [] []).bind fun p => back p.2 p.1) = some (.bool true) := by kernel_rfl
theorem awake_fn : Fn TT PT 21 [] (.bool true) := run_fnD hSt T21 rfl rfl awake_run
end Go.Proofs.YtlehfgdhebapeaaGreatDoor.KM
