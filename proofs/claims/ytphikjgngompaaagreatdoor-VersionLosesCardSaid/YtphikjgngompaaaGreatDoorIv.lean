/- A short word for whole numbers. -/
import Derived.Test.YtphikjgngompaaaGreatDoorNu
set_option linter.all false
namespace Go.Proofs.YtphikjgngompaaaGreatDoor.KM
open Go
abbrev iV(n:Int):V:=.int .i64 n
