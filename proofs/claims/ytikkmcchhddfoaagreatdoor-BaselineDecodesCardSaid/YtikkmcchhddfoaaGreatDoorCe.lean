/- What a row reads: lists of bytes. -/
import Derived.Test.YtikkmcchhddfoaaGreatDoorCb
import Derived.Test.YtikkmcchhddfoaaGreatDoorDa
set_option linter.all false
namespace Go.Proofs.YtikkmcchhddfoaaGreatDoor.KM
open Go Go.RowKit
theorem bytes_of {pcs : List V} (h : HasT Tryz.prog 22 pcs) : ∃ z u, ∃ l : List Int, pcs = [SL z u (bI l)] ∧ l.length ≤ 9223372036854775807 ∧ Byt l := by
  obtain ⟨z, u, l, rfl, hl⟩ := hasT_list (f := fun n : { n : Nat // n < 256 } => [V.int .u8 (n.1 : Int)]) Tryz.underlying22 h fun r hr => by
    obtain ⟨n, hn, rfl⟩ := u8_of Tryz.underlying5 hr
    exact ⟨⟨n, hn⟩, rfl⟩
  refine ⟨z, u, l.map fun n => (n.1 : Int), ?_, by simpa using hl, fun x hx => ?_⟩
  · unfold bI
    rw [List.map_map]
    rfl
  · obtain ⟨n, _, rfl⟩ := List.mem_map.1 hx
    have := n.2
    omega
end Go.Proofs.YtikkmcchhddfoaaGreatDoor.KM
