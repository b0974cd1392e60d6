/-
  NARROWER THAN 'FOR EVERY INPUT', by the rows' own cells (each row's printed sentence says how): BaselineFormats: laid · BaselineLess: laid · BaselineOrders: laid · BaselineValid: laid · BaselineSpoilt: laid · BaselineEncodes: laid · BaselineCompares: laid · BaselineUpdates: laid · BaselineFull: laid · BaselineLives: laid · BaselineSettles: laid · BaselineParses: laid.
  DERIVED. THE GIVEN ROWS OF THIS SEAT. 12 by the template 'for every input the law returns true; each argument reads behind the call as it read before'; 0 by the template 'total and deterministic' (their statements: YticpkkjnajmpoaaGreatDoorTotals.lean).
  GIVEN WITH THE SEED: the statements are not yours to turn. If you find one false, say at which input.
  Laid BY PROGRAM, IN A SANDBOX (cutbox-rows.mjs): the forced cells as the released guide's own fill.sh prints them over the translation 1750f5f6ce24c0ae… (all of the seat's roots in one cut). By AI agents, Wed Nov 11 2026. No macro, syntax, notation, axiom, sorry.
-/
import Derived.Test.YticpkkjnajmpoaaGreatDoorChecked
import GoSem.PinnedTables
import GoSem.Claim
import GoSem.ClaimJoined
import GoSem.ClaimMapViews
import Derived.JoinedTies
import Derived.KernelRfl
namespace Go.Proofs.YticpkkjnajmpoaaGreatDoor
/- THE CELL 'sum', in the pinned program and in every row, IS THE sha256 OF THE DUMP (.gsa) THAT YticpkkjnajmpoaaGreatDoorProg.lean LOADS. Nothing in Lean hashes anything: it is a label: what it is worth is what the hold of that sum in a sandbox is worth. -/
noncomputable def Tryz.pinned : Pinned := { name := "yticpkkjnajmpoaagreatdoor", sum := "1750f5f6ce24c0ae6c10bd5d40afbbfc9486b0132a0c008aae277bddb538ad87", checked := Tryz.checked }
namespace Rows
def none {H : Type} : Left H := { results := [], args := [] }

/- WHAT THE LISTED PACKAGE-LEVEL VARIABLES READ AS WHEN THE CALL BEGINS. Each datum BY PROGRAM (the guide's laid-datum.mjs) off the statement by which the dump's own 'gosem.cut.vars' lays the variable. In a bare row this is a premise. The card (YticpkkjnajmpoaaGreatDoorCards.lean) ties it to the program's text. -/
def laid_math_bits_deBruijn32tab {H : Type} : DataW H := .agg [.lit (.int .u8 0), .lit (.int .u8 1), .lit (.int .u8 28), .lit (.int .u8 2), .lit (.int .u8 29), .lit (.int .u8 14), .lit (.int .u8 24), .lit (.int .u8 3), .lit (.int .u8 30), .lit (.int .u8 22), .lit (.int .u8 20), .lit (.int .u8 15), .lit (.int .u8 25), .lit (.int .u8 17), .lit (.int .u8 4), .lit (.int .u8 8), .lit (.int .u8 31), .lit (.int .u8 27), .lit (.int .u8 13), .lit (.int .u8 23), .lit (.int .u8 21), .lit (.int .u8 19), .lit (.int .u8 16), .lit (.int .u8 7), .lit (.int .u8 26), .lit (.int .u8 12), .lit (.int .u8 18), .lit (.int .u8 6), .lit (.int .u8 11), .lit (.int .u8 5), .lit (.int .u8 10), .lit (.int .u8 9)]
def laid_math_bits_deBruijn64tab {H : Type} : DataW H := .agg [.lit (.int .u8 0), .lit (.int .u8 1), .lit (.int .u8 56), .lit (.int .u8 2), .lit (.int .u8 57), .lit (.int .u8 49), .lit (.int .u8 28), .lit (.int .u8 3), .lit (.int .u8 61), .lit (.int .u8 58), .lit (.int .u8 42), .lit (.int .u8 50), .lit (.int .u8 38), .lit (.int .u8 29), .lit (.int .u8 17), .lit (.int .u8 4), .lit (.int .u8 62), .lit (.int .u8 47), .lit (.int .u8 59), .lit (.int .u8 36), .lit (.int .u8 45), .lit (.int .u8 43), .lit (.int .u8 51), .lit (.int .u8 22), .lit (.int .u8 53), .lit (.int .u8 39), .lit (.int .u8 33), .lit (.int .u8 30), .lit (.int .u8 24), .lit (.int .u8 18), .lit (.int .u8 12), .lit (.int .u8 5), .lit (.int .u8 63), .lit (.int .u8 55), .lit (.int .u8 48), .lit (.int .u8 27), .lit (.int .u8 60), .lit (.int .u8 41), .lit (.int .u8 37), .lit (.int .u8 16), .lit (.int .u8 46), .lit (.int .u8 35), .lit (.int .u8 44), .lit (.int .u8 21), .lit (.int .u8 52), .lit (.int .u8 32), .lit (.int .u8 23), .lit (.int .u8 11), .lit (.int .u8 54), .lit (.int .u8 26), .lit (.int .u8 40), .lit (.int .u8 15), .lit (.int .u8 34), .lit (.int .u8 20), .lit (.int .u8 31), .lit (.int .u8 10), .lit (.int .u8 25), .lit (.int .u8 14), .lit (.int .u8 19), .lit (.int .u8 9), .lit (.int .u8 13), .lit (.int .u8 8), .lit (.int .u8 7), .lit (.int .u8 6)]
def laid_internal_strconv_uint64pow10 {H : Type} : DataW H := .agg [.lit (.int .u64 1), .lit (.int .u64 10), .lit (.int .u64 100), .lit (.int .u64 1000), .lit (.int .u64 10000), .lit (.int .u64 100000), .lit (.int .u64 1000000), .lit (.int .u64 10000000), .lit (.int .u64 100000000), .lit (.int .u64 1000000000), .lit (.int .u64 10000000000), .lit (.int .u64 100000000000), .lit (.int .u64 1000000000000), .lit (.int .u64 10000000000000), .lit (.int .u64 100000000000000), .lit (.int .u64 1000000000000000), .lit (.int .u64 10000000000000000), .lit (.int .u64 100000000000000000), .lit (.int .u64 1000000000000000000), .lit (.int .u64 10000000000000000000)]
def laid_unicode_utf8_acceptRanges {H : Type} : DataW H := .agg [.agg [.lit (.int .u8 128), .lit (.int .u8 191)], .agg [.lit (.int .u8 160), .lit (.int .u8 191)], .agg [.lit (.int .u8 128), .lit (.int .u8 159)], .agg [.lit (.int .u8 144), .lit (.int .u8 191)], .agg [.lit (.int .u8 128), .lit (.int .u8 143)], .agg [.lit (.int .u8 0), .lit (.int .u8 0)], .agg [.lit (.int .u8 0), .lit (.int .u8 0)], .agg [.lit (.int .u8 0), .lit (.int .u8 0)], .agg [.lit (.int .u8 0), .lit (.int .u8 0)], .agg [.lit (.int .u8 0), .lit (.int .u8 0)], .agg [.lit (.int .u8 0), .lit (.int .u8 0)], .agg [.lit (.int .u8 0), .lit (.int .u8 0)], .agg [.lit (.int .u8 0), .lit (.int .u8 0)], .agg [.lit (.int .u8 0), .lit (.int .u8 0)], .agg [.lit (.int .u8 0), .lit (.int .u8 0)], .agg [.lit (.int .u8 0), .lit (.int .u8 0)]]
def laid_strconv_ErrRange {H : Type} : DataW H := .iface "*errors.errorString" (.ptr (.agg [.lit (.string [118, 97, 108, 117, 101, 32, 111, 117, 116, 32, 111, 102, 32, 114, 97, 110, 103, 101])]))
def laid_strconv_ErrSyntax {H : Type} : DataW H := .iface "*errors.errorString" (.ptr (.agg [.lit (.string [105, 110, 118, 97, 108, 105, 100, 32, 115, 121, 110, 116, 97, 120])]))
def laid_interleave_format_operators {H : Type} : DataW H := .agg [.agg [.lit (.string []), .lit (.int .i64 0)], .agg [.lit (.string []), .lit (.int .i64 7)], .agg [.lit (.string []), .lit (.int .i64 7)], .agg [.lit (.string []), .lit (.int .i64 7)], .agg [.lit (.string [45]), .lit (.int .i64 6)], .agg [.lit (.string [33]), .lit (.int .i64 6)], .agg [.lit (.string [43]), .lit (.int .i64 4)], .agg [.lit (.string [45]), .lit (.int .i64 4)], .agg [.lit (.string [42]), .lit (.int .i64 5)], .agg [.lit (.string [47]), .lit (.int .i64 5)], .agg [.lit (.string [37]), .lit (.int .i64 5)], .agg [.lit (.string [61, 61]), .lit (.int .i64 3)], .agg [.lit (.string [33, 61]), .lit (.int .i64 3)], .agg [.lit (.string [60]), .lit (.int .i64 3)], .agg [.lit (.string [60, 61]), .lit (.int .i64 3)], .agg [.lit (.string [62]), .lit (.int .i64 3)], .agg [.lit (.string [62, 61]), .lit (.int .i64 3)], .agg [.lit (.string [38, 38]), .lit (.int .i64 2)], .agg [.lit (.string [124, 124]), .lit (.int .i64 1)]]
def laid_interleave_token_keywords {H : Type} : DataW H := .agg [.lit (.string [118, 97, 114]), .lit (.string [118, 111, 108, 97, 116, 105, 108, 101]), .lit (.string [109, 117, 116, 101, 120]), .lit (.string [114, 119, 108, 111, 99, 107]), .lit (.string [99, 111, 110, 100]), .lit (.string [102, 117, 116, 117, 114, 101]), .lit (.string [116, 104, 114, 101, 97, 100]), .lit (.string [105, 102]), .lit (.string [101, 108, 115, 101]), .lit (.string [119, 104, 105, 108, 101]), .lit (.string [108, 111, 99, 107]), .lit (.string [114, 101, 97, 100]), .lit (.string [119, 114, 105, 116, 101]), .lit (.string [116, 114, 97, 110, 115, 97, 99, 116, 105, 111, 110]), .lit (.string [97, 116, 111, 109, 105, 99]), .lit (.string [119, 97, 105, 116]), .lit (.string [110, 111, 116, 105, 102, 121]), .lit (.string [110, 111, 116, 105, 102, 121, 97, 108, 108]), .lit (.string [115, 112, 97, 119, 110]), .lit (.string [106, 111, 105, 110]), .lit (.string [115, 101, 116]), .lit (.string [103, 101, 116])]
/-- One of Go's own tables, pinned by name: the form's constant. -/
def laid_unicode_utf8_first : DataW Unit := Go.Pinned.utf8First

/-- 'interleavelaw40.BaselineFormats': WHATEVER THE INPUT: true; the input reads as it did. -/
def baselineFormatsSpec : ChangeSpec := { name := "baselineFormats", fn := fun _ => fun
  | [d1, d2] => { results := [.lit (.bool true)], args := [d1, d2] }
  | _ => none }
def baselineFormatsRow : OpenClaim := { program := "yticpkkjnajmpoaagreatdoor", sum := "1750f5f6ce24c0ae6c10bd5d40afbbfc9486b0132a0c008aae277bddb538ad87", func := "interleave/interleavelaw40.BaselineFormats", spec := "baselineFormats", inPlace := ["internal/bytealg.abigen_runtime_cmpstring", "internal/abi.NoEscape", "internal/bytealg.IndexByteString", "internal/bytealg.IndexString", "internal/bytealg.MakeNoZero"], unfollowed := true, recurses := true, named := ["internal/strconv.uint64pow10", "math/bits.deBruijn32tab", "math/bits.deBruijn64tab", "interleave/token.keywords", "unicode/utf8.first", "unicode/utf8.acceptRanges", "strconv.ErrSyntax", "strconv.ErrRange", "interleave/format.operators", "internal/bytealg.MaxLen"], apart := false, laid := [("math/bits.deBruijn32tab", laid_math_bits_deBruijn32tab), ("math/bits.deBruijn64tab", laid_math_bits_deBruijn64tab), ("internal/strconv.uint64pow10", laid_internal_strconv_uint64pow10), ("unicode/utf8.acceptRanges", laid_unicode_utf8_acceptRanges), ("strconv.ErrRange", laid_strconv_ErrRange), ("strconv.ErrSyntax", laid_strconv_ErrSyntax), ("interleave/format.operators", laid_interleave_format_operators), ("interleave/token.keywords", laid_interleave_token_keywords), ("unicode/utf8.first", laid_unicode_utf8_first)] }
def BaselineFormatsSaid : Prop := baselineFormatsRow.holds Tryz.pinned (OpenSpec.ofChange baselineFormatsSpec)

/-- ITS FALSE NEIGHBOUR: 'it returns false'. Refute it at one input. -/
def baselineFormatsWrong : ChangeSpec := { name := "baselineFormats", fn := fun _ => fun
  | [d1, d2] => { results := [.lit (.bool false)], args := [d1, d2] }
  | _ => none }
def BaselineFormatsWrongFalsely : Prop := baselineFormatsRow.holds Tryz.pinned (OpenSpec.ofChange baselineFormatsWrong)

/-- 'interleavelaw40.BaselineLess': WHATEVER THE INPUT: true; the input reads as it did. -/
def baselineLessSpec : ChangeSpec := { name := "baselineLess", fn := fun _ => fun
  | [d1, d2, d3] => { results := [.lit (.bool true)], args := [d1, d2, d3] }
  | _ => none }
def baselineLessRow : OpenClaim := { program := "yticpkkjnajmpoaagreatdoor", sum := "1750f5f6ce24c0ae6c10bd5d40afbbfc9486b0132a0c008aae277bddb538ad87", func := "interleave/interleavelaw40.BaselineLess", spec := "baselineLess", inPlace := ["internal/bytealg.IndexByteString", "internal/bytealg.IndexString", "internal/abi.NoEscape", "internal/bytealg.MakeNoZero", "internal/bytealg.abigen_runtime_cmpstring"], unfollowed := true, recurses := true, named := ["interleave/token.keywords", "unicode/utf8.first", "unicode/utf8.acceptRanges", "strconv.ErrSyntax", "strconv.ErrRange", "internal/strconv.uint64pow10", "math/bits.deBruijn32tab", "math/bits.deBruijn64tab", "interleave/format.operators", "internal/bytealg.MaxLen"], apart := false, laid := [("math/bits.deBruijn32tab", laid_math_bits_deBruijn32tab), ("math/bits.deBruijn64tab", laid_math_bits_deBruijn64tab), ("internal/strconv.uint64pow10", laid_internal_strconv_uint64pow10), ("unicode/utf8.acceptRanges", laid_unicode_utf8_acceptRanges), ("strconv.ErrRange", laid_strconv_ErrRange), ("strconv.ErrSyntax", laid_strconv_ErrSyntax), ("interleave/format.operators", laid_interleave_format_operators), ("interleave/token.keywords", laid_interleave_token_keywords), ("unicode/utf8.first", laid_unicode_utf8_first)] }
def BaselineLessSaid : Prop := baselineLessRow.holds Tryz.pinned (OpenSpec.ofChange baselineLessSpec)

/-- ITS FALSE NEIGHBOUR: 'it returns false'. Refute it at one input. -/
def baselineLessWrong : ChangeSpec := { name := "baselineLess", fn := fun _ => fun
  | [d1, d2, d3] => { results := [.lit (.bool false)], args := [d1, d2, d3] }
  | _ => none }
def BaselineLessWrongFalsely : Prop := baselineLessRow.holds Tryz.pinned (OpenSpec.ofChange baselineLessWrong)

/-- 'interleavelaw40.BaselineOrders': WHATEVER THE INPUT: true; the input reads as it did. -/
def baselineOrdersSpec : ChangeSpec := { name := "baselineOrders", fn := fun _ => fun
  | [d] => { results := [.lit (.bool true)], args := [d] }
  | _ => none }
def baselineOrdersRow : OpenClaim := { program := "yticpkkjnajmpoaagreatdoor", sum := "1750f5f6ce24c0ae6c10bd5d40afbbfc9486b0132a0c008aae277bddb538ad87", func := "interleave/interleavelaw40.BaselineOrders", spec := "baselineOrders", inPlace := ["internal/bytealg.abigen_runtime_cmpstring", "internal/bytealg.IndexByteString", "internal/bytealg.IndexString", "internal/abi.NoEscape", "internal/bytealg.MakeNoZero"], unfollowed := true, recurses := true, named := ["interleave/token.keywords", "unicode/utf8.first", "unicode/utf8.acceptRanges", "strconv.ErrSyntax", "strconv.ErrRange", "internal/strconv.uint64pow10", "math/bits.deBruijn32tab", "math/bits.deBruijn64tab", "interleave/format.operators", "internal/bytealg.MaxLen"], apart := false, laid := [("math/bits.deBruijn32tab", laid_math_bits_deBruijn32tab), ("math/bits.deBruijn64tab", laid_math_bits_deBruijn64tab), ("internal/strconv.uint64pow10", laid_internal_strconv_uint64pow10), ("unicode/utf8.acceptRanges", laid_unicode_utf8_acceptRanges), ("strconv.ErrRange", laid_strconv_ErrRange), ("strconv.ErrSyntax", laid_strconv_ErrSyntax), ("interleave/format.operators", laid_interleave_format_operators), ("interleave/token.keywords", laid_interleave_token_keywords), ("unicode/utf8.first", laid_unicode_utf8_first)] }
def BaselineOrdersSaid : Prop := baselineOrdersRow.holds Tryz.pinned (OpenSpec.ofChange baselineOrdersSpec)

/-- ITS FALSE NEIGHBOUR: 'it returns false'. Refute it at one input. -/
def baselineOrdersWrong : ChangeSpec := { name := "baselineOrders", fn := fun _ => fun
  | [d] => { results := [.lit (.bool false)], args := [d] }
  | _ => none }
def BaselineOrdersWrongFalsely : Prop := baselineOrdersRow.holds Tryz.pinned (OpenSpec.ofChange baselineOrdersWrong)

/-- 'interleavelaw40.BaselineValid': WHATEVER THE INPUT: true; the input reads as it did. -/
def baselineValidSpec : ChangeSpec := { name := "baselineValid", fn := fun _ => fun
  | [d] => { results := [.lit (.bool true)], args := [d] }
  | _ => none }
def baselineValidRow : OpenClaim := { program := "yticpkkjnajmpoaagreatdoor", sum := "1750f5f6ce24c0ae6c10bd5d40afbbfc9486b0132a0c008aae277bddb538ad87", func := "interleave/interleavelaw40.BaselineValid", spec := "baselineValid", inPlace := ["internal/bytealg.IndexByteString", "internal/bytealg.IndexString", "internal/abi.NoEscape", "internal/bytealg.MakeNoZero", "internal/bytealg.abigen_runtime_cmpstring"], unfollowed := true, recurses := true, named := ["interleave/token.keywords", "unicode/utf8.first", "unicode/utf8.acceptRanges", "strconv.ErrSyntax", "strconv.ErrRange", "internal/strconv.uint64pow10", "math/bits.deBruijn32tab", "math/bits.deBruijn64tab", "interleave/format.operators", "internal/bytealg.MaxLen"], apart := false, laid := [("math/bits.deBruijn32tab", laid_math_bits_deBruijn32tab), ("math/bits.deBruijn64tab", laid_math_bits_deBruijn64tab), ("internal/strconv.uint64pow10", laid_internal_strconv_uint64pow10), ("unicode/utf8.acceptRanges", laid_unicode_utf8_acceptRanges), ("strconv.ErrRange", laid_strconv_ErrRange), ("strconv.ErrSyntax", laid_strconv_ErrSyntax), ("interleave/format.operators", laid_interleave_format_operators), ("interleave/token.keywords", laid_interleave_token_keywords), ("unicode/utf8.first", laid_unicode_utf8_first)] }
def BaselineValidSaid : Prop := baselineValidRow.holds Tryz.pinned (OpenSpec.ofChange baselineValidSpec)

/-- ITS FALSE NEIGHBOUR: 'it returns false'. Refute it at one input. -/
def baselineValidWrong : ChangeSpec := { name := "baselineValid", fn := fun _ => fun
  | [d] => { results := [.lit (.bool false)], args := [d] }
  | _ => none }
def BaselineValidWrongFalsely : Prop := baselineValidRow.holds Tryz.pinned (OpenSpec.ofChange baselineValidWrong)

/-- 'interleavelaw40.BaselineSpoilt': WHATEVER THE INPUT: true; the input reads as it did. -/
def baselineSpoiltSpec : ChangeSpec := { name := "baselineSpoilt", fn := fun _ => fun
  | [d1, d2, d3, d4, d5, d6] => { results := [.lit (.bool true)], args := [d1, d2, d3, d4, d5, d6] }
  | _ => none }
def baselineSpoiltRow : OpenClaim := { program := "yticpkkjnajmpoaagreatdoor", sum := "1750f5f6ce24c0ae6c10bd5d40afbbfc9486b0132a0c008aae277bddb538ad87", func := "interleave/interleavelaw40.BaselineSpoilt", spec := "baselineSpoilt", inPlace := ["internal/bytealg.abigen_runtime_cmpstring", "internal/bytealg.IndexByteString", "internal/bytealg.IndexString", "internal/abi.NoEscape", "internal/bytealg.MakeNoZero"], unfollowed := true, recurses := true, named := ["interleave/token.keywords", "unicode/utf8.first", "unicode/utf8.acceptRanges", "strconv.ErrSyntax", "strconv.ErrRange", "internal/strconv.uint64pow10", "math/bits.deBruijn32tab", "math/bits.deBruijn64tab", "interleave/format.operators", "internal/bytealg.MaxLen"], apart := false, laid := [("math/bits.deBruijn32tab", laid_math_bits_deBruijn32tab), ("math/bits.deBruijn64tab", laid_math_bits_deBruijn64tab), ("internal/strconv.uint64pow10", laid_internal_strconv_uint64pow10), ("unicode/utf8.acceptRanges", laid_unicode_utf8_acceptRanges), ("strconv.ErrRange", laid_strconv_ErrRange), ("strconv.ErrSyntax", laid_strconv_ErrSyntax), ("interleave/format.operators", laid_interleave_format_operators), ("interleave/token.keywords", laid_interleave_token_keywords), ("unicode/utf8.first", laid_unicode_utf8_first)] }
def BaselineSpoiltSaid : Prop := baselineSpoiltRow.holds Tryz.pinned (OpenSpec.ofChange baselineSpoiltSpec)

/-- ITS FALSE NEIGHBOUR: 'it returns false'. Refute it at one input. -/
def baselineSpoiltWrong : ChangeSpec := { name := "baselineSpoilt", fn := fun _ => fun
  | [d1, d2, d3, d4, d5, d6] => { results := [.lit (.bool false)], args := [d1, d2, d3, d4, d5, d6] }
  | _ => none }
def BaselineSpoiltWrongFalsely : Prop := baselineSpoiltRow.holds Tryz.pinned (OpenSpec.ofChange baselineSpoiltWrong)

/-- 'interleavelaw40.BaselineEncodes': WHATEVER THE INPUT: true; the input reads as it did. -/
def baselineEncodesSpec : ChangeSpec := { name := "baselineEncodes", fn := fun _ => fun
  | [d1, d2, d3] => { results := [.lit (.bool true)], args := [d1, d2, d3] }
  | _ => none }
def baselineEncodesRow : OpenClaim := { program := "yticpkkjnajmpoaagreatdoor", sum := "1750f5f6ce24c0ae6c10bd5d40afbbfc9486b0132a0c008aae277bddb538ad87", func := "interleave/interleavelaw40.BaselineEncodes", spec := "baselineEncodes", inPlace := ["internal/bytealg.IndexByteString", "internal/bytealg.IndexString", "internal/abi.NoEscape", "internal/bytealg.MakeNoZero", "internal/bytealg.abigen_runtime_cmpstring"], unfollowed := true, recurses := true, named := ["interleave/token.keywords", "unicode/utf8.first", "unicode/utf8.acceptRanges", "strconv.ErrSyntax", "strconv.ErrRange", "internal/strconv.uint64pow10", "math/bits.deBruijn32tab", "math/bits.deBruijn64tab", "interleave/format.operators", "internal/bytealg.MaxLen"], apart := false, laid := [("math/bits.deBruijn32tab", laid_math_bits_deBruijn32tab), ("math/bits.deBruijn64tab", laid_math_bits_deBruijn64tab), ("internal/strconv.uint64pow10", laid_internal_strconv_uint64pow10), ("unicode/utf8.acceptRanges", laid_unicode_utf8_acceptRanges), ("strconv.ErrRange", laid_strconv_ErrRange), ("strconv.ErrSyntax", laid_strconv_ErrSyntax), ("interleave/format.operators", laid_interleave_format_operators), ("interleave/token.keywords", laid_interleave_token_keywords), ("unicode/utf8.first", laid_unicode_utf8_first)] }
def BaselineEncodesSaid : Prop := baselineEncodesRow.holds Tryz.pinned (OpenSpec.ofChange baselineEncodesSpec)

/-- ITS FALSE NEIGHBOUR: 'it returns false'. Refute it at one input. -/
def baselineEncodesWrong : ChangeSpec := { name := "baselineEncodes", fn := fun _ => fun
  | [d1, d2, d3] => { results := [.lit (.bool false)], args := [d1, d2, d3] }
  | _ => none }
def BaselineEncodesWrongFalsely : Prop := baselineEncodesRow.holds Tryz.pinned (OpenSpec.ofChange baselineEncodesWrong)

/-- 'interleavelaw40.BaselineCompares': WHATEVER THE INPUT: true; the input reads as it did. -/
def baselineComparesSpec : ChangeSpec := { name := "baselineCompares", fn := fun _ => fun
  | [d1, d2, d3, d4] => { results := [.lit (.bool true)], args := [d1, d2, d3, d4] }
  | _ => none }
def baselineComparesRow : OpenClaim := { program := "yticpkkjnajmpoaagreatdoor", sum := "1750f5f6ce24c0ae6c10bd5d40afbbfc9486b0132a0c008aae277bddb538ad87", func := "interleave/interleavelaw40.BaselineCompares", spec := "baselineCompares", inPlace := ["internal/bytealg.abigen_runtime_cmpstring", "internal/bytealg.IndexByteString", "internal/bytealg.IndexString", "internal/abi.NoEscape", "internal/bytealg.MakeNoZero"], unfollowed := true, recurses := true, named := ["interleave/token.keywords", "unicode/utf8.first", "unicode/utf8.acceptRanges", "strconv.ErrSyntax", "strconv.ErrRange", "internal/strconv.uint64pow10", "math/bits.deBruijn32tab", "math/bits.deBruijn64tab", "interleave/format.operators", "internal/bytealg.MaxLen"], apart := false, laid := [("math/bits.deBruijn32tab", laid_math_bits_deBruijn32tab), ("math/bits.deBruijn64tab", laid_math_bits_deBruijn64tab), ("internal/strconv.uint64pow10", laid_internal_strconv_uint64pow10), ("unicode/utf8.acceptRanges", laid_unicode_utf8_acceptRanges), ("strconv.ErrRange", laid_strconv_ErrRange), ("strconv.ErrSyntax", laid_strconv_ErrSyntax), ("interleave/format.operators", laid_interleave_format_operators), ("interleave/token.keywords", laid_interleave_token_keywords), ("unicode/utf8.first", laid_unicode_utf8_first)] }
def BaselineComparesSaid : Prop := baselineComparesRow.holds Tryz.pinned (OpenSpec.ofChange baselineComparesSpec)

/-- ITS FALSE NEIGHBOUR: 'it returns false'. Refute it at one input. -/
def baselineComparesWrong : ChangeSpec := { name := "baselineCompares", fn := fun _ => fun
  | [d1, d2, d3, d4] => { results := [.lit (.bool false)], args := [d1, d2, d3, d4] }
  | _ => none }
def BaselineComparesWrongFalsely : Prop := baselineComparesRow.holds Tryz.pinned (OpenSpec.ofChange baselineComparesWrong)

/-- 'interleavelaw40.BaselineUpdates': WHATEVER THE INPUT: true; the input reads as it did. -/
def baselineUpdatesSpec : ChangeSpec := { name := "baselineUpdates", fn := fun _ => fun
  | [d1, d2, d3, d4] => { results := [.lit (.bool true)], args := [d1, d2, d3, d4] }
  | _ => none }
def baselineUpdatesRow : OpenClaim := { program := "yticpkkjnajmpoaagreatdoor", sum := "1750f5f6ce24c0ae6c10bd5d40afbbfc9486b0132a0c008aae277bddb538ad87", func := "interleave/interleavelaw40.BaselineUpdates", spec := "baselineUpdates", inPlace := ["internal/bytealg.abigen_runtime_cmpstring", "internal/bytealg.IndexByteString", "internal/bytealg.IndexString", "internal/abi.NoEscape", "internal/bytealg.MakeNoZero"], unfollowed := true, recurses := true, named := ["interleave/token.keywords", "unicode/utf8.first", "unicode/utf8.acceptRanges", "strconv.ErrSyntax", "strconv.ErrRange", "internal/strconv.uint64pow10", "math/bits.deBruijn32tab", "math/bits.deBruijn64tab", "interleave/format.operators", "internal/bytealg.MaxLen"], apart := false, laid := [("math/bits.deBruijn32tab", laid_math_bits_deBruijn32tab), ("math/bits.deBruijn64tab", laid_math_bits_deBruijn64tab), ("internal/strconv.uint64pow10", laid_internal_strconv_uint64pow10), ("unicode/utf8.acceptRanges", laid_unicode_utf8_acceptRanges), ("strconv.ErrRange", laid_strconv_ErrRange), ("strconv.ErrSyntax", laid_strconv_ErrSyntax), ("interleave/format.operators", laid_interleave_format_operators), ("interleave/token.keywords", laid_interleave_token_keywords), ("unicode/utf8.first", laid_unicode_utf8_first)] }
def BaselineUpdatesSaid : Prop := baselineUpdatesRow.holds Tryz.pinned (OpenSpec.ofChange baselineUpdatesSpec)

/-- ITS FALSE NEIGHBOUR: 'it returns false'. Refute it at one input. -/
def baselineUpdatesWrong : ChangeSpec := { name := "baselineUpdates", fn := fun _ => fun
  | [d1, d2, d3, d4] => { results := [.lit (.bool false)], args := [d1, d2, d3, d4] }
  | _ => none }
def BaselineUpdatesWrongFalsely : Prop := baselineUpdatesRow.holds Tryz.pinned (OpenSpec.ofChange baselineUpdatesWrong)

/-- 'interleavelaw40.BaselineFull': WHATEVER THE INPUT: true; the input reads as it did. -/
def baselineFullSpec : ChangeSpec := { name := "baselineFull", fn := fun _ => fun
  | [d1, d2] => { results := [.lit (.bool true)], args := [d1, d2] }
  | _ => none }
def baselineFullRow : OpenClaim := { program := "yticpkkjnajmpoaagreatdoor", sum := "1750f5f6ce24c0ae6c10bd5d40afbbfc9486b0132a0c008aae277bddb538ad87", func := "interleave/interleavelaw40.BaselineFull", spec := "baselineFull", inPlace := ["internal/bytealg.abigen_runtime_cmpstring", "internal/bytealg.IndexByteString", "internal/bytealg.IndexString", "internal/abi.NoEscape", "internal/bytealg.MakeNoZero"], unfollowed := true, recurses := true, named := ["interleave/token.keywords", "unicode/utf8.first", "unicode/utf8.acceptRanges", "strconv.ErrSyntax", "strconv.ErrRange", "internal/strconv.uint64pow10", "math/bits.deBruijn32tab", "math/bits.deBruijn64tab", "interleave/format.operators", "internal/bytealg.MaxLen"], apart := false, laid := [("math/bits.deBruijn32tab", laid_math_bits_deBruijn32tab), ("math/bits.deBruijn64tab", laid_math_bits_deBruijn64tab), ("internal/strconv.uint64pow10", laid_internal_strconv_uint64pow10), ("unicode/utf8.acceptRanges", laid_unicode_utf8_acceptRanges), ("strconv.ErrRange", laid_strconv_ErrRange), ("strconv.ErrSyntax", laid_strconv_ErrSyntax), ("interleave/format.operators", laid_interleave_format_operators), ("interleave/token.keywords", laid_interleave_token_keywords), ("unicode/utf8.first", laid_unicode_utf8_first)] }
def BaselineFullSaid : Prop := baselineFullRow.holds Tryz.pinned (OpenSpec.ofChange baselineFullSpec)

/-- ITS FALSE NEIGHBOUR: 'it returns false'. Refute it at one input. -/
def baselineFullWrong : ChangeSpec := { name := "baselineFull", fn := fun _ => fun
  | [d1, d2] => { results := [.lit (.bool false)], args := [d1, d2] }
  | _ => none }
def BaselineFullWrongFalsely : Prop := baselineFullRow.holds Tryz.pinned (OpenSpec.ofChange baselineFullWrong)

/-- 'interleavelaw40.BaselineLives': WHATEVER THE INPUT: true; the input reads as it did. -/
def baselineLivesSpec : ChangeSpec := { name := "baselineLives", fn := fun _ => fun
  | [d1, d2] => { results := [.lit (.bool true)], args := [d1, d2] }
  | _ => none }
def baselineLivesRow : OpenClaim := { program := "yticpkkjnajmpoaagreatdoor", sum := "1750f5f6ce24c0ae6c10bd5d40afbbfc9486b0132a0c008aae277bddb538ad87", func := "interleave/interleavelaw40.BaselineLives", spec := "baselineLives", inPlace := ["internal/bytealg.abigen_runtime_cmpstring", "internal/bytealg.IndexByteString", "internal/bytealg.IndexString", "internal/abi.NoEscape", "internal/bytealg.MakeNoZero"], unfollowed := true, recurses := true, named := ["interleave/token.keywords", "unicode/utf8.first", "unicode/utf8.acceptRanges", "strconv.ErrSyntax", "strconv.ErrRange", "internal/strconv.uint64pow10", "math/bits.deBruijn32tab", "math/bits.deBruijn64tab", "interleave/format.operators", "internal/bytealg.MaxLen"], apart := false, laid := [("math/bits.deBruijn32tab", laid_math_bits_deBruijn32tab), ("math/bits.deBruijn64tab", laid_math_bits_deBruijn64tab), ("internal/strconv.uint64pow10", laid_internal_strconv_uint64pow10), ("unicode/utf8.acceptRanges", laid_unicode_utf8_acceptRanges), ("strconv.ErrRange", laid_strconv_ErrRange), ("strconv.ErrSyntax", laid_strconv_ErrSyntax), ("interleave/format.operators", laid_interleave_format_operators), ("interleave/token.keywords", laid_interleave_token_keywords), ("unicode/utf8.first", laid_unicode_utf8_first)] }
def BaselineLivesSaid : Prop := baselineLivesRow.holds Tryz.pinned (OpenSpec.ofChange baselineLivesSpec)

/-- ITS FALSE NEIGHBOUR: 'it returns false'. Refute it at one input. -/
def baselineLivesWrong : ChangeSpec := { name := "baselineLives", fn := fun _ => fun
  | [d1, d2] => { results := [.lit (.bool false)], args := [d1, d2] }
  | _ => none }
def BaselineLivesWrongFalsely : Prop := baselineLivesRow.holds Tryz.pinned (OpenSpec.ofChange baselineLivesWrong)

/-- 'interleavelaw40.BaselineSettles': WHATEVER THE INPUT: true; the input reads as it did. -/
def baselineSettlesSpec : ChangeSpec := { name := "baselineSettles", fn := fun _ => fun
  | [d1, d2, d3] => { results := [.lit (.bool true)], args := [d1, d2, d3] }
  | _ => none }
def baselineSettlesRow : OpenClaim := { program := "yticpkkjnajmpoaagreatdoor", sum := "1750f5f6ce24c0ae6c10bd5d40afbbfc9486b0132a0c008aae277bddb538ad87", func := "interleave/interleavelaw40.BaselineSettles", spec := "baselineSettles", inPlace := ["internal/bytealg.abigen_runtime_cmpstring", "internal/bytealg.IndexByteString", "internal/bytealg.IndexString", "internal/abi.NoEscape", "internal/bytealg.MakeNoZero"], unfollowed := true, recurses := true, named := ["interleave/token.keywords", "unicode/utf8.first", "unicode/utf8.acceptRanges", "strconv.ErrSyntax", "strconv.ErrRange", "internal/strconv.uint64pow10", "math/bits.deBruijn32tab", "math/bits.deBruijn64tab", "interleave/format.operators", "internal/bytealg.MaxLen"], apart := false, laid := [("math/bits.deBruijn32tab", laid_math_bits_deBruijn32tab), ("math/bits.deBruijn64tab", laid_math_bits_deBruijn64tab), ("internal/strconv.uint64pow10", laid_internal_strconv_uint64pow10), ("unicode/utf8.acceptRanges", laid_unicode_utf8_acceptRanges), ("strconv.ErrRange", laid_strconv_ErrRange), ("strconv.ErrSyntax", laid_strconv_ErrSyntax), ("interleave/format.operators", laid_interleave_format_operators), ("interleave/token.keywords", laid_interleave_token_keywords), ("unicode/utf8.first", laid_unicode_utf8_first)] }
def BaselineSettlesSaid : Prop := baselineSettlesRow.holds Tryz.pinned (OpenSpec.ofChange baselineSettlesSpec)

/-- ITS FALSE NEIGHBOUR: 'it returns false'. Refute it at one input. -/
def baselineSettlesWrong : ChangeSpec := { name := "baselineSettles", fn := fun _ => fun
  | [d1, d2, d3] => { results := [.lit (.bool false)], args := [d1, d2, d3] }
  | _ => none }
def BaselineSettlesWrongFalsely : Prop := baselineSettlesRow.holds Tryz.pinned (OpenSpec.ofChange baselineSettlesWrong)

/-- 'interleavelaw40.BaselineParses': WHATEVER THE INPUT: true; the input reads as it did. -/
def baselineParsesSpec : ChangeSpec := { name := "baselineParses", fn := fun _ => fun
  | [d] => { results := [.lit (.bool true)], args := [d] }
  | _ => none }
def baselineParsesRow : OpenClaim := { program := "yticpkkjnajmpoaagreatdoor", sum := "1750f5f6ce24c0ae6c10bd5d40afbbfc9486b0132a0c008aae277bddb538ad87", func := "interleave/interleavelaw40.BaselineParses", spec := "baselineParses", inPlace := ["internal/bytealg.IndexByteString", "internal/bytealg.IndexString", "internal/abi.NoEscape", "internal/bytealg.MakeNoZero", "internal/bytealg.CountString", "internal/bytealg.abigen_runtime_cmpstring"], unfollowed := true, recurses := true, named := ["interleave/token.keywords", "unicode/utf8.first", "unicode/utf8.acceptRanges", "strconv.ErrSyntax", "strconv.ErrRange", "internal/strconv.uint64pow10", "math/bits.deBruijn32tab", "math/bits.deBruijn64tab", "interleave/format.operators", "internal/bytealg.MaxLen"], apart := false, laid := [("math/bits.deBruijn32tab", laid_math_bits_deBruijn32tab), ("math/bits.deBruijn64tab", laid_math_bits_deBruijn64tab), ("internal/strconv.uint64pow10", laid_internal_strconv_uint64pow10), ("unicode/utf8.acceptRanges", laid_unicode_utf8_acceptRanges), ("strconv.ErrRange", laid_strconv_ErrRange), ("strconv.ErrSyntax", laid_strconv_ErrSyntax), ("interleave/format.operators", laid_interleave_format_operators), ("interleave/token.keywords", laid_interleave_token_keywords), ("unicode/utf8.first", laid_unicode_utf8_first)] }
def BaselineParsesSaid : Prop := baselineParsesRow.holds Tryz.pinned (OpenSpec.ofChange baselineParsesSpec)

/-- ITS FALSE NEIGHBOUR: 'it returns false'. Refute it at one input. -/
def baselineParsesWrong : ChangeSpec := { name := "baselineParses", fn := fun _ => fun
  | [d] => { results := [.lit (.bool false)], args := [d] }
  | _ => none }
def BaselineParsesWrongFalsely : Prop := baselineParsesRow.holds Tryz.pinned (OpenSpec.ofChange baselineParsesWrong)

/- THE SECOND FORM. 'bulk': how many values and letters a reading holds, each counted each time it is reached (what is shared counts as often as it is met; a slice's spare places count too). A statement '..UptoSaid' is the law's where the arguments, and the package variables that the reading takes, are together of bulk at most 1048576: NARROWER than '..Said'. Prove '..Said' where nothing that the law and all that it calls make is longer than what came in: it says more and counts as full. Else prove '..UptoSaid'. A law counts once. -/
mutual
def uptoBulk {H : Type} : DataW H → Nat
  | .lit (.string bytes) => bytes.length + 1
  | .lit _ => 1
  | .nil => 1
  | .ptr d => uptoBulk d + 1
  | .slice elems spare => uptoBulkAll elems + uptoBulkAll spare + 1
  | .agg parts => uptoBulkAll parts + 1
  | .iface _ d => uptoBulk d + 1
  | .map entries => uptoBulkEntries entries + 1
  | .held _ => 1
def uptoBulkAll {H : Type} : List (DataW H) → Nat
  | [] => 0
  | d :: r => uptoBulk d + uptoBulkAll r
def uptoBulkEntries {H : Type} : List (Lit × DataW H) → Nat
  | [] => 0
  | x :: r => uptoBulkEntry x + uptoBulkEntries r
def uptoBulkEntry {H : Type} : Lit × DataW H → Nat
  | (.string bytes, d) => bytes.length + uptoBulk d + 1
  | (_, d) => uptoBulk d + 1
 end
def uptoSmall : (H : Type) → List (DataW H) → Bool := fun _ ds => decide (uptoBulkAll ds ≤ 1048576)
def OpenSpec.upto (s : _root_.Go.ChangeSpec) : _root_.Go.OpenSpec := { _root_.Go.OpenSpec.ofChange s with cond := some uptoSmall }

/-- 'interleavelaw40.BaselineFormats', WHERE WHAT IT READS IS OF BULK AT MOST 1048576: true; the input reads as it did. -/
def baselineFormatsUptoRow : OpenClaim := { program := "yticpkkjnajmpoaagreatdoor", sum := "1750f5f6ce24c0ae6c10bd5d40afbbfc9486b0132a0c008aae277bddb538ad87", func := "interleave/interleavelaw40.BaselineFormats", spec := "baselineFormats", inPlace := ["internal/bytealg.abigen_runtime_cmpstring", "internal/abi.NoEscape", "internal/bytealg.IndexByteString", "internal/bytealg.IndexString", "internal/bytealg.MakeNoZero"], unfollowed := true, recurses := true, named := ["internal/strconv.uint64pow10", "math/bits.deBruijn32tab", "math/bits.deBruijn64tab", "interleave/token.keywords", "unicode/utf8.first", "unicode/utf8.acceptRanges", "strconv.ErrSyntax", "strconv.ErrRange", "interleave/format.operators", "internal/bytealg.MaxLen"], apart := false, laid := [("math/bits.deBruijn32tab", laid_math_bits_deBruijn32tab), ("math/bits.deBruijn64tab", laid_math_bits_deBruijn64tab), ("internal/strconv.uint64pow10", laid_internal_strconv_uint64pow10), ("unicode/utf8.acceptRanges", laid_unicode_utf8_acceptRanges), ("strconv.ErrRange", laid_strconv_ErrRange), ("strconv.ErrSyntax", laid_strconv_ErrSyntax), ("interleave/format.operators", laid_interleave_format_operators), ("interleave/token.keywords", laid_interleave_token_keywords), ("unicode/utf8.first", laid_unicode_utf8_first)], narrowed := true }
def BaselineFormatsUptoSaid : Prop := baselineFormatsUptoRow.holds Tryz.pinned (OpenSpec.upto baselineFormatsSpec)

/-- 'interleavelaw40.BaselineLess', WHERE WHAT IT READS IS OF BULK AT MOST 1048576: true; the input reads as it did. -/
def baselineLessUptoRow : OpenClaim := { program := "yticpkkjnajmpoaagreatdoor", sum := "1750f5f6ce24c0ae6c10bd5d40afbbfc9486b0132a0c008aae277bddb538ad87", func := "interleave/interleavelaw40.BaselineLess", spec := "baselineLess", inPlace := ["internal/bytealg.IndexByteString", "internal/bytealg.IndexString", "internal/abi.NoEscape", "internal/bytealg.MakeNoZero", "internal/bytealg.abigen_runtime_cmpstring"], unfollowed := true, recurses := true, named := ["interleave/token.keywords", "unicode/utf8.first", "unicode/utf8.acceptRanges", "strconv.ErrSyntax", "strconv.ErrRange", "internal/strconv.uint64pow10", "math/bits.deBruijn32tab", "math/bits.deBruijn64tab", "interleave/format.operators", "internal/bytealg.MaxLen"], apart := false, laid := [("math/bits.deBruijn32tab", laid_math_bits_deBruijn32tab), ("math/bits.deBruijn64tab", laid_math_bits_deBruijn64tab), ("internal/strconv.uint64pow10", laid_internal_strconv_uint64pow10), ("unicode/utf8.acceptRanges", laid_unicode_utf8_acceptRanges), ("strconv.ErrRange", laid_strconv_ErrRange), ("strconv.ErrSyntax", laid_strconv_ErrSyntax), ("interleave/format.operators", laid_interleave_format_operators), ("interleave/token.keywords", laid_interleave_token_keywords), ("unicode/utf8.first", laid_unicode_utf8_first)], narrowed := true }
def BaselineLessUptoSaid : Prop := baselineLessUptoRow.holds Tryz.pinned (OpenSpec.upto baselineLessSpec)

/-- 'interleavelaw40.BaselineOrders', WHERE WHAT IT READS IS OF BULK AT MOST 1048576: true; the input reads as it did. -/
def baselineOrdersUptoRow : OpenClaim := { program := "yticpkkjnajmpoaagreatdoor", sum := "1750f5f6ce24c0ae6c10bd5d40afbbfc9486b0132a0c008aae277bddb538ad87", func := "interleave/interleavelaw40.BaselineOrders", spec := "baselineOrders", inPlace := ["internal/bytealg.abigen_runtime_cmpstring", "internal/bytealg.IndexByteString", "internal/bytealg.IndexString", "internal/abi.NoEscape", "internal/bytealg.MakeNoZero"], unfollowed := true, recurses := true, named := ["interleave/token.keywords", "unicode/utf8.first", "unicode/utf8.acceptRanges", "strconv.ErrSyntax", "strconv.ErrRange", "internal/strconv.uint64pow10", "math/bits.deBruijn32tab", "math/bits.deBruijn64tab", "interleave/format.operators", "internal/bytealg.MaxLen"], apart := false, laid := [("math/bits.deBruijn32tab", laid_math_bits_deBruijn32tab), ("math/bits.deBruijn64tab", laid_math_bits_deBruijn64tab), ("internal/strconv.uint64pow10", laid_internal_strconv_uint64pow10), ("unicode/utf8.acceptRanges", laid_unicode_utf8_acceptRanges), ("strconv.ErrRange", laid_strconv_ErrRange), ("strconv.ErrSyntax", laid_strconv_ErrSyntax), ("interleave/format.operators", laid_interleave_format_operators), ("interleave/token.keywords", laid_interleave_token_keywords), ("unicode/utf8.first", laid_unicode_utf8_first)], narrowed := true }
def BaselineOrdersUptoSaid : Prop := baselineOrdersUptoRow.holds Tryz.pinned (OpenSpec.upto baselineOrdersSpec)

/-- 'interleavelaw40.BaselineValid', WHERE WHAT IT READS IS OF BULK AT MOST 1048576: true; the input reads as it did. -/
def baselineValidUptoRow : OpenClaim := { program := "yticpkkjnajmpoaagreatdoor", sum := "1750f5f6ce24c0ae6c10bd5d40afbbfc9486b0132a0c008aae277bddb538ad87", func := "interleave/interleavelaw40.BaselineValid", spec := "baselineValid", inPlace := ["internal/bytealg.IndexByteString", "internal/bytealg.IndexString", "internal/abi.NoEscape", "internal/bytealg.MakeNoZero", "internal/bytealg.abigen_runtime_cmpstring"], unfollowed := true, recurses := true, named := ["interleave/token.keywords", "unicode/utf8.first", "unicode/utf8.acceptRanges", "strconv.ErrSyntax", "strconv.ErrRange", "internal/strconv.uint64pow10", "math/bits.deBruijn32tab", "math/bits.deBruijn64tab", "interleave/format.operators", "internal/bytealg.MaxLen"], apart := false, laid := [("math/bits.deBruijn32tab", laid_math_bits_deBruijn32tab), ("math/bits.deBruijn64tab", laid_math_bits_deBruijn64tab), ("internal/strconv.uint64pow10", laid_internal_strconv_uint64pow10), ("unicode/utf8.acceptRanges", laid_unicode_utf8_acceptRanges), ("strconv.ErrRange", laid_strconv_ErrRange), ("strconv.ErrSyntax", laid_strconv_ErrSyntax), ("interleave/format.operators", laid_interleave_format_operators), ("interleave/token.keywords", laid_interleave_token_keywords), ("unicode/utf8.first", laid_unicode_utf8_first)], narrowed := true }
def BaselineValidUptoSaid : Prop := baselineValidUptoRow.holds Tryz.pinned (OpenSpec.upto baselineValidSpec)

/-- 'interleavelaw40.BaselineSpoilt', WHERE WHAT IT READS IS OF BULK AT MOST 1048576: true; the input reads as it did. -/
def baselineSpoiltUptoRow : OpenClaim := { program := "yticpkkjnajmpoaagreatdoor", sum := "1750f5f6ce24c0ae6c10bd5d40afbbfc9486b0132a0c008aae277bddb538ad87", func := "interleave/interleavelaw40.BaselineSpoilt", spec := "baselineSpoilt", inPlace := ["internal/bytealg.abigen_runtime_cmpstring", "internal/bytealg.IndexByteString", "internal/bytealg.IndexString", "internal/abi.NoEscape", "internal/bytealg.MakeNoZero"], unfollowed := true, recurses := true, named := ["interleave/token.keywords", "unicode/utf8.first", "unicode/utf8.acceptRanges", "strconv.ErrSyntax", "strconv.ErrRange", "internal/strconv.uint64pow10", "math/bits.deBruijn32tab", "math/bits.deBruijn64tab", "interleave/format.operators", "internal/bytealg.MaxLen"], apart := false, laid := [("math/bits.deBruijn32tab", laid_math_bits_deBruijn32tab), ("math/bits.deBruijn64tab", laid_math_bits_deBruijn64tab), ("internal/strconv.uint64pow10", laid_internal_strconv_uint64pow10), ("unicode/utf8.acceptRanges", laid_unicode_utf8_acceptRanges), ("strconv.ErrRange", laid_strconv_ErrRange), ("strconv.ErrSyntax", laid_strconv_ErrSyntax), ("interleave/format.operators", laid_interleave_format_operators), ("interleave/token.keywords", laid_interleave_token_keywords), ("unicode/utf8.first", laid_unicode_utf8_first)], narrowed := true }
def BaselineSpoiltUptoSaid : Prop := baselineSpoiltUptoRow.holds Tryz.pinned (OpenSpec.upto baselineSpoiltSpec)

/-- 'interleavelaw40.BaselineEncodes', WHERE WHAT IT READS IS OF BULK AT MOST 1048576: true; the input reads as it did. -/
def baselineEncodesUptoRow : OpenClaim := { program := "yticpkkjnajmpoaagreatdoor", sum := "1750f5f6ce24c0ae6c10bd5d40afbbfc9486b0132a0c008aae277bddb538ad87", func := "interleave/interleavelaw40.BaselineEncodes", spec := "baselineEncodes", inPlace := ["internal/bytealg.IndexByteString", "internal/bytealg.IndexString", "internal/abi.NoEscape", "internal/bytealg.MakeNoZero", "internal/bytealg.abigen_runtime_cmpstring"], unfollowed := true, recurses := true, named := ["interleave/token.keywords", "unicode/utf8.first", "unicode/utf8.acceptRanges", "strconv.ErrSyntax", "strconv.ErrRange", "internal/strconv.uint64pow10", "math/bits.deBruijn32tab", "math/bits.deBruijn64tab", "interleave/format.operators", "internal/bytealg.MaxLen"], apart := false, laid := [("math/bits.deBruijn32tab", laid_math_bits_deBruijn32tab), ("math/bits.deBruijn64tab", laid_math_bits_deBruijn64tab), ("internal/strconv.uint64pow10", laid_internal_strconv_uint64pow10), ("unicode/utf8.acceptRanges", laid_unicode_utf8_acceptRanges), ("strconv.ErrRange", laid_strconv_ErrRange), ("strconv.ErrSyntax", laid_strconv_ErrSyntax), ("interleave/format.operators", laid_interleave_format_operators), ("interleave/token.keywords", laid_interleave_token_keywords), ("unicode/utf8.first", laid_unicode_utf8_first)], narrowed := true }
def BaselineEncodesUptoSaid : Prop := baselineEncodesUptoRow.holds Tryz.pinned (OpenSpec.upto baselineEncodesSpec)

/-- 'interleavelaw40.BaselineCompares', WHERE WHAT IT READS IS OF BULK AT MOST 1048576: true; the input reads as it did. -/
def baselineComparesUptoRow : OpenClaim := { program := "yticpkkjnajmpoaagreatdoor", sum := "1750f5f6ce24c0ae6c10bd5d40afbbfc9486b0132a0c008aae277bddb538ad87", func := "interleave/interleavelaw40.BaselineCompares", spec := "baselineCompares", inPlace := ["internal/bytealg.abigen_runtime_cmpstring", "internal/bytealg.IndexByteString", "internal/bytealg.IndexString", "internal/abi.NoEscape", "internal/bytealg.MakeNoZero"], unfollowed := true, recurses := true, named := ["interleave/token.keywords", "unicode/utf8.first", "unicode/utf8.acceptRanges", "strconv.ErrSyntax", "strconv.ErrRange", "internal/strconv.uint64pow10", "math/bits.deBruijn32tab", "math/bits.deBruijn64tab", "interleave/format.operators", "internal/bytealg.MaxLen"], apart := false, laid := [("math/bits.deBruijn32tab", laid_math_bits_deBruijn32tab), ("math/bits.deBruijn64tab", laid_math_bits_deBruijn64tab), ("internal/strconv.uint64pow10", laid_internal_strconv_uint64pow10), ("unicode/utf8.acceptRanges", laid_unicode_utf8_acceptRanges), ("strconv.ErrRange", laid_strconv_ErrRange), ("strconv.ErrSyntax", laid_strconv_ErrSyntax), ("interleave/format.operators", laid_interleave_format_operators), ("interleave/token.keywords", laid_interleave_token_keywords), ("unicode/utf8.first", laid_unicode_utf8_first)], narrowed := true }
def BaselineComparesUptoSaid : Prop := baselineComparesUptoRow.holds Tryz.pinned (OpenSpec.upto baselineComparesSpec)

/-- 'interleavelaw40.BaselineUpdates', WHERE WHAT IT READS IS OF BULK AT MOST 1048576: true; the input reads as it did. -/
def baselineUpdatesUptoRow : OpenClaim := { program := "yticpkkjnajmpoaagreatdoor", sum := "1750f5f6ce24c0ae6c10bd5d40afbbfc9486b0132a0c008aae277bddb538ad87", func := "interleave/interleavelaw40.BaselineUpdates", spec := "baselineUpdates", inPlace := ["internal/bytealg.abigen_runtime_cmpstring", "internal/bytealg.IndexByteString", "internal/bytealg.IndexString", "internal/abi.NoEscape", "internal/bytealg.MakeNoZero"], unfollowed := true, recurses := true, named := ["interleave/token.keywords", "unicode/utf8.first", "unicode/utf8.acceptRanges", "strconv.ErrSyntax", "strconv.ErrRange", "internal/strconv.uint64pow10", "math/bits.deBruijn32tab", "math/bits.deBruijn64tab", "interleave/format.operators", "internal/bytealg.MaxLen"], apart := false, laid := [("math/bits.deBruijn32tab", laid_math_bits_deBruijn32tab), ("math/bits.deBruijn64tab", laid_math_bits_deBruijn64tab), ("internal/strconv.uint64pow10", laid_internal_strconv_uint64pow10), ("unicode/utf8.acceptRanges", laid_unicode_utf8_acceptRanges), ("strconv.ErrRange", laid_strconv_ErrRange), ("strconv.ErrSyntax", laid_strconv_ErrSyntax), ("interleave/format.operators", laid_interleave_format_operators), ("interleave/token.keywords", laid_interleave_token_keywords), ("unicode/utf8.first", laid_unicode_utf8_first)], narrowed := true }
def BaselineUpdatesUptoSaid : Prop := baselineUpdatesUptoRow.holds Tryz.pinned (OpenSpec.upto baselineUpdatesSpec)

/-- 'interleavelaw40.BaselineFull', WHERE WHAT IT READS IS OF BULK AT MOST 1048576: true; the input reads as it did. -/
def baselineFullUptoRow : OpenClaim := { program := "yticpkkjnajmpoaagreatdoor", sum := "1750f5f6ce24c0ae6c10bd5d40afbbfc9486b0132a0c008aae277bddb538ad87", func := "interleave/interleavelaw40.BaselineFull", spec := "baselineFull", inPlace := ["internal/bytealg.abigen_runtime_cmpstring", "internal/bytealg.IndexByteString", "internal/bytealg.IndexString", "internal/abi.NoEscape", "internal/bytealg.MakeNoZero"], unfollowed := true, recurses := true, named := ["interleave/token.keywords", "unicode/utf8.first", "unicode/utf8.acceptRanges", "strconv.ErrSyntax", "strconv.ErrRange", "internal/strconv.uint64pow10", "math/bits.deBruijn32tab", "math/bits.deBruijn64tab", "interleave/format.operators", "internal/bytealg.MaxLen"], apart := false, laid := [("math/bits.deBruijn32tab", laid_math_bits_deBruijn32tab), ("math/bits.deBruijn64tab", laid_math_bits_deBruijn64tab), ("internal/strconv.uint64pow10", laid_internal_strconv_uint64pow10), ("unicode/utf8.acceptRanges", laid_unicode_utf8_acceptRanges), ("strconv.ErrRange", laid_strconv_ErrRange), ("strconv.ErrSyntax", laid_strconv_ErrSyntax), ("interleave/format.operators", laid_interleave_format_operators), ("interleave/token.keywords", laid_interleave_token_keywords), ("unicode/utf8.first", laid_unicode_utf8_first)], narrowed := true }
def BaselineFullUptoSaid : Prop := baselineFullUptoRow.holds Tryz.pinned (OpenSpec.upto baselineFullSpec)

/-- 'interleavelaw40.BaselineLives', WHERE WHAT IT READS IS OF BULK AT MOST 1048576: true; the input reads as it did. -/
def baselineLivesUptoRow : OpenClaim := { program := "yticpkkjnajmpoaagreatdoor", sum := "1750f5f6ce24c0ae6c10bd5d40afbbfc9486b0132a0c008aae277bddb538ad87", func := "interleave/interleavelaw40.BaselineLives", spec := "baselineLives", inPlace := ["internal/bytealg.abigen_runtime_cmpstring", "internal/bytealg.IndexByteString", "internal/bytealg.IndexString", "internal/abi.NoEscape", "internal/bytealg.MakeNoZero"], unfollowed := true, recurses := true, named := ["interleave/token.keywords", "unicode/utf8.first", "unicode/utf8.acceptRanges", "strconv.ErrSyntax", "strconv.ErrRange", "internal/strconv.uint64pow10", "math/bits.deBruijn32tab", "math/bits.deBruijn64tab", "interleave/format.operators", "internal/bytealg.MaxLen"], apart := false, laid := [("math/bits.deBruijn32tab", laid_math_bits_deBruijn32tab), ("math/bits.deBruijn64tab", laid_math_bits_deBruijn64tab), ("internal/strconv.uint64pow10", laid_internal_strconv_uint64pow10), ("unicode/utf8.acceptRanges", laid_unicode_utf8_acceptRanges), ("strconv.ErrRange", laid_strconv_ErrRange), ("strconv.ErrSyntax", laid_strconv_ErrSyntax), ("interleave/format.operators", laid_interleave_format_operators), ("interleave/token.keywords", laid_interleave_token_keywords), ("unicode/utf8.first", laid_unicode_utf8_first)], narrowed := true }
def BaselineLivesUptoSaid : Prop := baselineLivesUptoRow.holds Tryz.pinned (OpenSpec.upto baselineLivesSpec)

/-- 'interleavelaw40.BaselineSettles', WHERE WHAT IT READS IS OF BULK AT MOST 1048576: true; the input reads as it did. -/
def baselineSettlesUptoRow : OpenClaim := { program := "yticpkkjnajmpoaagreatdoor", sum := "1750f5f6ce24c0ae6c10bd5d40afbbfc9486b0132a0c008aae277bddb538ad87", func := "interleave/interleavelaw40.BaselineSettles", spec := "baselineSettles", inPlace := ["internal/bytealg.abigen_runtime_cmpstring", "internal/bytealg.IndexByteString", "internal/bytealg.IndexString", "internal/abi.NoEscape", "internal/bytealg.MakeNoZero"], unfollowed := true, recurses := true, named := ["interleave/token.keywords", "unicode/utf8.first", "unicode/utf8.acceptRanges", "strconv.ErrSyntax", "strconv.ErrRange", "internal/strconv.uint64pow10", "math/bits.deBruijn32tab", "math/bits.deBruijn64tab", "interleave/format.operators", "internal/bytealg.MaxLen"], apart := false, laid := [("math/bits.deBruijn32tab", laid_math_bits_deBruijn32tab), ("math/bits.deBruijn64tab", laid_math_bits_deBruijn64tab), ("internal/strconv.uint64pow10", laid_internal_strconv_uint64pow10), ("unicode/utf8.acceptRanges", laid_unicode_utf8_acceptRanges), ("strconv.ErrRange", laid_strconv_ErrRange), ("strconv.ErrSyntax", laid_strconv_ErrSyntax), ("interleave/format.operators", laid_interleave_format_operators), ("interleave/token.keywords", laid_interleave_token_keywords), ("unicode/utf8.first", laid_unicode_utf8_first)], narrowed := true }
def BaselineSettlesUptoSaid : Prop := baselineSettlesUptoRow.holds Tryz.pinned (OpenSpec.upto baselineSettlesSpec)

/-- 'interleavelaw40.BaselineParses', WHERE WHAT IT READS IS OF BULK AT MOST 1048576: true; the input reads as it did. -/
def baselineParsesUptoRow : OpenClaim := { program := "yticpkkjnajmpoaagreatdoor", sum := "1750f5f6ce24c0ae6c10bd5d40afbbfc9486b0132a0c008aae277bddb538ad87", func := "interleave/interleavelaw40.BaselineParses", spec := "baselineParses", inPlace := ["internal/bytealg.IndexByteString", "internal/bytealg.IndexString", "internal/abi.NoEscape", "internal/bytealg.MakeNoZero", "internal/bytealg.CountString", "internal/bytealg.abigen_runtime_cmpstring"], unfollowed := true, recurses := true, named := ["interleave/token.keywords", "unicode/utf8.first", "unicode/utf8.acceptRanges", "strconv.ErrSyntax", "strconv.ErrRange", "internal/strconv.uint64pow10", "math/bits.deBruijn32tab", "math/bits.deBruijn64tab", "interleave/format.operators", "internal/bytealg.MaxLen"], apart := false, laid := [("math/bits.deBruijn32tab", laid_math_bits_deBruijn32tab), ("math/bits.deBruijn64tab", laid_math_bits_deBruijn64tab), ("internal/strconv.uint64pow10", laid_internal_strconv_uint64pow10), ("unicode/utf8.acceptRanges", laid_unicode_utf8_acceptRanges), ("strconv.ErrRange", laid_strconv_ErrRange), ("strconv.ErrSyntax", laid_strconv_ErrSyntax), ("interleave/format.operators", laid_interleave_format_operators), ("interleave/token.keywords", laid_interleave_token_keywords), ("unicode/utf8.first", laid_unicode_utf8_first)], narrowed := true }
def BaselineParsesUptoSaid : Prop := baselineParsesUptoRow.holds Tryz.pinned (OpenSpec.upto baselineParsesSpec)

end Rows
end Go.Proofs.YticpkkjnajmpoaaGreatDoor
