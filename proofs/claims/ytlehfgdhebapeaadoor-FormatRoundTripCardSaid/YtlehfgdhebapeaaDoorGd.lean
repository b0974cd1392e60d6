/- Walks: the reference's texts of declarations and programs. -/
import Derived.Test.YtlehfgdhebapeaaDoorGc
set_option linter.all false
namespace Go.Proofs.YtlehfgdhebapeaaDoor.KM
open Go
theorem dec_le : ∀ (k u : Nat), (decE k u).length ≤ k
  | 0, _ => by simp [decE]
  | k + 1, u => by
    have := dec_le k (u / 10)
    unfold decE
    split
    · simp
    · simp; omega
theorem itoa_le (n : Int) : (itoaE n).length ≤ 21 := by
  unfold itoaE
  split
  · have := dec_le 20 n.natAbs
    simp; omega
  · have := dec_le 20 n.toNat
    omega
end Go.Proofs.YtlehfgdhebapeaaDoor.KM
