/- Walks: comparisons, keys. -/
import Derived.Test.YtlehfgdhebapeaaDoorNu
import Derived.Test.YtlehfgdhebapeaaDoorA5
set_option linter.all false
namespace Go.Proofs.YtlehfgdhebapeaaDoor.KM
open Go
/-! keys -/
abbrev Key := List UInt8 × List UInt8 × Int
def krow (k : Key) : List V := [.str k.1, .str k.2.1, .int .i64 k.2.2]
/-! entries -/
structure Ent where
  kind : Int
  sites : List Key
  seen : Int
  missed : Int
  z : Bool := true
  t : Nat := 0
def Ent.sl (x : Ent) : V := SL x.z x.t (x.sites.map krow)
def Ent.row (x : Ent) : List V := [.int .i64 x.kind, x.sl, .int .i64 x.seen, .int .i64 x.missed]
end Go.Proofs.YtlehfgdhebapeaaDoor.KM
