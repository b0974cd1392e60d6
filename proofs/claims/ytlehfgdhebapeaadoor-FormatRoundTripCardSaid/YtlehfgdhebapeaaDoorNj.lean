/- token.IsName and token.IsKeyword, known by what they return. -/
import Derived.Test.YtlehfgdhebapeaaDoorA5
import Derived.Test.YtlehfgdhebapeaaDoorProg
import Derived.WalkSpells
import Derived.WalkLawsBesides
import Derived.BigQuiet
import Derived.BigGuardPart
import Derived.Lib.Hide
import Derived.LoopTactic
import Derived.Laws.RangeAny
set_option linter.all false
namespace Go.Proofs.YtlehfgdhebapeaaDoor.KM
open Go Go.RowKit
def kwL : List (List UInt8) := [[118, 97, 114], [118, 111, 108, 97, 116, 105, 108, 101], [109, 117, 116, 101, 120], [114, 119, 108, 111, 99, 107], [99, 111, 110, 100], [102, 117, 116, 117, 114, 101], [116, 104, 114, 101, 97, 100], [105, 102], [101, 108, 115, 101], [119, 104, 105, 108, 101], [108, 111, 99, 107], [114, 101, 97, 100], [119, 114, 105, 116, 101], [116, 114, 97, 110, 115, 97, 99, 116, 105, 111, 110], [97, 116, 111, 109, 105, 99], [119, 97, 105, 116], [110, 111, 116, 105, 102, 121], [110, 111, 116, 105, 102, 121, 97, 108, 108], [115, 112, 97, 119, 110], [106, 111, 105, 110], [115, 101, 116], [103, 101, 116]]
def gKw : List V := kwL.map V.str
def kwE (l : List UInt8) : Bool := kwL.any fun k => l == k
def letN (n : Nat) : Bool := (decide (97 ≤ n) && decide (n ≤ 122)) || (decide (65 ≤ n) && decide (n ≤ 90))
def digN (n : Nat) : Bool := decide (48 ≤ n) && decide (n ≤ 57)
def innN (n : Nat) : Bool := letN n || (digN n || n == 95)
def nmC (l : List UInt8) (j : Nat) : Bool := letN (l.getD j 0).toNat || (decide (0 < j) && ((l.getD j 0).toNat == 95 || digN (l.getD j 0).toNat))
def isNameE (l : List UInt8) : Bool := decide (1 ≤ l.length) && (decide (l.length ≤ 12) && (!kwE l && (List.range l.length).all (nmC l)))
def kwS : List V → Option V
  | [.str l] => some (.bool (kwE l))
  | _ => none
end Go.Proofs.YtlehfgdhebapeaaDoor.KM
