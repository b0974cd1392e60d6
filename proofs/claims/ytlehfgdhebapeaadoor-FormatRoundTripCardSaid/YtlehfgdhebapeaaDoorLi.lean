/- Plain: what is parsed is shaped and not much longer than its tokens. -/
import Derived.Test.YtlehfgdhebapeaaDoorLf
import Derived.Test.YtlehfgdhebapeaaDoorLh
import Derived.Test.YtlehfgdhebapeaaDoorGd
import Derived.Test.YtlehfgdhebapeaaDoorGg
set_option linter.all false
namespace Go.Proofs.YtlehfgdhebapeaaDoor.KM
open Go
theorem tw_mem {p : UInt8 → Bool} : ∀ {l : List UInt8} {x : UInt8}, x ∈ l.takeWhile p → p x = true
  | [], x, h => by cases h
  | c :: l, x, h => by
    rw [List.takeWhile_cons] at h
    split at h
    · rename_i hc
      rcases List.mem_cons.1 h with rfl | h
      · exact hc
      · exact tw_mem h
    · cases h
def wt (C : Nat) (ts : List Tk) : Nat := C * ts.length
/-! scanning gives right tokens -/
/-! statements -/
def One (C : Nat) (ts r : List Tk) : Prop := r <:+ ts ∧ r.length + 1 = ts.length ∧ wt C ts = C + wt C r
end Go.Proofs.YtlehfgdhebapeaaDoor.KM
