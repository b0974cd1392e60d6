/- The tables that are read, where the row lays two of them. -/
import Derived.Test.YtlehfgdhebapeaaDoorCb
set_option linter.all false
namespace Go.Proofs.YtlehfgdhebapeaaDoor
open Go.ChangeShapes Go.WideShapes Go.ChangeAt Go.RowKit KM
theorem tabs_of2 {w : World} {laid : List (String × DataW Unit)} (h : laidMet Tryd.prog laid w) (h1 : ("interleave/format.operators", Rows.laid_interleave_format_operators) ∈ laid) (h2 : ("internal/strconv.uint64pow10", Rows.laid_internal_strconv_uint64pow10) ∈ laid) : ∃ m, Tabs (GT m) w := by
  refine ⟨0, fun g r hg => ?_⟩
  simp only [GT, List.mem_cons, List.not_mem_nil, or_false, Prod.mk.injEq] at hg
  rcases hg with ⟨rfl, rfl⟩ | ⟨rfl, rfl⟩ <;> first
    | exact tab_lit (ts := [3, 9, 117, 144]) (t := 144) h h1 globOps (by kernel_rfl) (by kernel_rfl) (by decide) (by kernel_rfl) (by kernel_rfl)
    | exact tab_lit (ts := [150, 168]) (t := 168) h h2 globPow (by kernel_rfl) (by kernel_rfl) (by decide) (by kernel_rfl) (by kernel_rfl)
end Go.Proofs.YtlehfgdhebapeaaDoor
