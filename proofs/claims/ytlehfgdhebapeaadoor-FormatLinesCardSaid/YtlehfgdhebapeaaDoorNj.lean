/- token.IsName and token.IsKeyword, known by what they return. -/
import Derived.Test.YtlehfgdhebapeaaDoorA5
import Derived.Test.YtlehfgdhebapeaaDoorProg
import Derived.WalkSpells
import Derived.WalkLawsBesides
import Derived.BigQuiet
import Derived.BigGuardPart
import Derived.Lib.Hide
import Derived.LoopTactic
import Derived.Laws.RangeAny
import Derived.Test.YtlehfgdhebapeaaDoorNa
set_option linter.all false
namespace Go.Proofs.YtlehfgdhebapeaaDoor.KM
open Go Go.RowKit
def kwL : List (List UInt8) := [[118, 97, 114], [118, 111, 108, 97, 116, 105, 108, 101], [109, 117, 116, 101, 120], [114, 119, 108, 111, 99, 107], [99, 111, 110, 100], [102, 117, 116, 117, 114, 101], [116, 104, 114, 101, 97, 100], [105, 102], [101, 108, 115, 101], [119, 104, 105, 108, 101], [108, 111, 99, 107], [114, 101, 97, 100], [119, 114, 105, 116, 101], [116, 114, 97, 110, 115, 97, 99, 116, 105, 111, 110], [97, 116, 111, 109, 105, 99], [119, 97, 105, 116], [110, 111, 116, 105, 102, 121], [110, 111, 116, 105, 102, 121, 97, 108, 108], [115, 112, 97, 119, 110], [106, 111, 105, 110], [115, 101, 116], [103, 101, 116]]
def kwE (l : List UInt8) : Bool := kwL.any fun k => l == k
def letN (n : Nat) : Bool := (decide (97 ≤ n) && decide (n ≤ 122)) || (decide (65 ≤ n) && decide (n ≤ 90))
def digN (n : Nat) : Bool := decide (48 ≤ n) && decide (n ≤ 57)
def innN (n : Nat) : Bool := letN n || (digN n || n == 95)
def nmC (l : List UInt8) (j : Nat) : Bool := letN (l.getD j 0).toNat || (decide (0 < j) && ((l.getD j 0).toNat == 95 || digN (l.getD j 0).toNat))
def isNameE (l : List UInt8) : Bool := decide (1 ≤ l.length) && (decide (l.length ≤ 12) && (!kwE l && (List.range l.length).all (nmC l)))
theorem name_f1 {l : List UInt8} (h : l.length < 1) : isNameE l = false := by
  unfold isNameE
  rw [decide_eq_false (by omega)]
  rfl
theorem name_f2 {l : List UInt8} (h : 12 < l.length) : isNameE l = false := by
  unfold isNameE
  rw [decide_eq_false (show ¬ l.length ≤ 12 by omega)]
  simp
theorem name_f3 {l : List UInt8} (h : kwE l = true) : isNameE l = false := by
  unfold isNameE
  rw [h]
  simp
theorem name_t {l : List UInt8} (h1 : 1 ≤ l.length) (h2 : l.length ≤ 12) (h3 : kwE l = false) (h4 : ∀ j, j < l.length → nmC l j = true) : isNameE l = true := by
  unfold isNameE
  rw [decide_eq_true h1, decide_eq_true h2, h3, List.all_eq_true.2 fun j hj => h4 j (List.mem_range.1 hj)]
  rfl
end Go.Proofs.YtlehfgdhebapeaaDoor.KM
/- token.IsName: the tie to what the machine knows. -/

namespace Go.Proofs.YtlehfgdhebapeaaDoor.KM
open Go Go.RowKit
/-! IsKeyword -/
end Go.Proofs.YtlehfgdhebapeaaDoor.KM
