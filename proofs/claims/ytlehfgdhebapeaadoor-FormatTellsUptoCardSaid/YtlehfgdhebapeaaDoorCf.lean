/- What a row reads: bytes. -/
import Derived.Test.YtlehfgdhebapeaaDoorCc
set_option linter.all false
namespace Go.Proofs.YtlehfgdhebapeaaDoor
open Go.ChangeShapes Go.WideShapes Go.ChangeAt Go.RowKit KM
theorem u8_of {P : Program} {t : TypeId} {pcs : List V} (hu : P.underlying t = some (.int .u8)) (h : HasT P t pcs) : ∃ n : Nat, n < 256 ∧ pcs = [.int .u8 (n : Int)] := by
  obtain ⟨n, rfl, hw⟩ := hasT_int hu h
  simp only [Lit.wf, Bool.and_eq_true, decide_eq_true_eq] at hw
  have h1 : (0 : Int) ≤ n := hw.1
  have h2 : n ≤ 255 := hw.2
  refine ⟨n.toNat, by omega, ?_⟩
  rw [Int.toNat_of_nonneg h1]
theorem bts_of {pcs : List V} (h : HasT Tryd.prog 22 pcs) : ∃ z u, ∃ l : List UInt8, pcs = [SL z u (byteRows l)] ∧ l.length ≤ 9223372036854775807 := by
  obtain ⟨z, u, l, rfl, hl⟩ := hasT_list (f := fun c : UInt8 => [V.int .u8 (c.toNat : Int)]) Tryd.underlying22 h fun r hr => by
    obtain ⟨n, hn, rfl⟩ := u8_of Tryd.underlying5 hr
    exact ⟨UInt8.ofNat n, by simp [Nat.mod_eq_of_lt hn]⟩
  exact ⟨z, u, l, rfl, hl⟩
end Go.Proofs.YtlehfgdhebapeaaDoor
