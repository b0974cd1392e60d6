/- The world of the witness: the settled one, the listed variables holding what their initialisers lay. -/
import Derived.Test.YtlehfgdhebapeaaDoorCb
set_option linter.all false
namespace Go.Proofs.YtlehfgdhebapeaaDoor
open Go.ChangeShapes Go.WideShapes Go.ChangeAt Go.RowKit KM
theorem and_t {a b : Bool} (h1 : a = true) (h2 : b = true) : (a && b) = true := by rw [h1, h2]; rfl
/-- a block that holds a table -/
def setRow (d : DataW Unit) : Obj → Obj
  | .cells _ t frozen => .cells (flatV d).toArray t frozen
  | o => o
/-- a block that holds an error that errors.New makes -/
def setErr (b : Nat) : Obj → Obj
  | .cells _ t frozen => .cells #[.iface 212 (.pointer (some ⟨b, 0, none⟩))] t frozen
  | o => o
def errText : DataW Unit → Array UInt8
  | .iface _ (.ptr (.agg [.lit (.string l)])) => l.toArray
  | _ => #[]
noncomputable def holds0 (os : Os) : Array Obj := (World.holding Tryd.prog os ⟨#[], #[], []⟩).heap
noncomputable def laidWorld (os : Os) : World :=
  { World.holding Tryd.prog os ⟨#[], #[], []⟩ with heap := ((((((((((holds0 os).modify 0 (setRow Rows.laid_interleave_format_operators)).modify 2 (setRow Rows.laid_internal_strconv_uint64pow10)).modify 4 (setRow Rows.laid_math_bits_deBruijn32tab)).modify 5 (setRow Rows.laid_math_bits_deBruijn64tab)).modify 7 (setRow Rows.laid_unicode_utf8_acceptRanges)).modify 3 (setRow Rows.laid_interleave_token_keywords)).modify 6 (setRow Rows.laid_unicode_utf8_first)).modify 9 (setErr (holds0 os).size)).modify 8 (setErr ((holds0 os).size + 1))).push (.cells #[.string ⟨errText Rows.laid_strconv_ErrRange⟩] 214 (0, 0)) |>.push (.cells #[.string ⟨errText Rows.laid_strconv_ErrSyntax⟩] 214 (0, 0)) }
end Go.Proofs.YtlehfgdhebapeaaDoor
