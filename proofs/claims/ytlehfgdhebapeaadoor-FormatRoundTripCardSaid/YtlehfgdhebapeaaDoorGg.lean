/- Walks: the program's texts of statements. -/
import Derived.Test.YtlehfgdhebapeaaDoorGf
set_option linter.all false
namespace Go.Proofs.YtlehfgdhebapeaaDoor.KM
open Go
mutual
def Sp.sz : Sp → Nat
  | ⟨_, _, _, _, _, _, _, _, _, _, body, _, _, els⟩ => 1 + Sp.szs body + Sp.szs els
def Sp.szs : List Sp → Nat
  | [] => 0
  | x :: l => x.sz + Sp.szs l
end
end Go.Proofs.YtlehfgdhebapeaaDoor.KM
