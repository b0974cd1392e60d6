/- What every closing of this seat's laws needs: the tables, plain data out of what a row reads, the world of the witness. -/
import Derived.Test.YtlehfgdhebapeaaDoorCa
import Derived.Test.YtlehfgdhebapeaaDoorPa
set_option linter.all false
namespace Go.Proofs.YtlehfgdhebapeaaDoor
open Go.ChangeShapes Go.WideShapes Go.ChangeAt Go.RowKit KM

theorem ownKnob_none : ownKnob Tryd.prog.godebug = none := by kernel_rfl
theorem hasT_int {P : Program} {t : TypeId} {k : IntKind} {pcs : List V} (hu : P.underlying t = some (.int k)) (h : HasT P t pcs) : ∃ n, pcs = [.int k n] ∧ (Lit.int k n).wf = true := by
  cases h with
  | int hu' hw =>
    rw [hu] at hu'
    injection hu' with e
    injection e with e
    subst e
    exact ⟨_, rfl, hw⟩
  | _ => simp_all
theorem hasT_slice {P : Program} {t e : TypeId} {pcs : List V} (hu : P.underlying t = some (.slice e)) (h : HasT P t pcs) : pcs = [.nils] ∨ ∃ xs, pcs = [.lst 0 xs] ∧ xs.length ≤ maxLen ∧ ∀ i, i < xs.length → HasT P e (xs.getD i []) := by
  cases h with
  | nils _ => exact .inl rfl
  | lst hu' hl hT =>
    rw [hu] at hu'
    injection hu' with e
    injection e with e
    subst e
    exact .inr ⟨_, rfl, hl, hT⟩
  | _ => simp_all
/-- a list of rows of one form -/
theorem rows_map {α : Type} {f : α → List V} : ∀ {xs : List (List V)}, (∀ i, i < xs.length → ∃ a, xs.getD i [] = f a) → ∃ l : List α, xs = l.map f
  | [], _ => ⟨[], rfl⟩
  | x :: xs, h => by
    obtain ⟨a, ha⟩ := h 0 (by simp)
    obtain ⟨l, hl⟩ := rows_map (xs := xs) fun i hi => h (i + 1) (by simpa using hi)
    exact ⟨a :: l, by rw [hl]; simp at ha; simp [ha]⟩
theorem hasT_list {P : Program} {t e : TypeId} {α : Type} {f : α → List V} {pcs : List V} (hu : P.underlying t = some (.slice e)) (h : HasT P t pcs) (hf : ∀ r, HasT P e r → ∃ a, r = f a) : ∃ z u, ∃ l : List α, pcs = [SL z u (l.map f)] ∧ l.length ≤ 9223372036854775807 := by
  rcases hasT_slice hu h with rfl | ⟨xs, rfl, hl, hT⟩
  · exact ⟨true, 0, [], rfl, by simp⟩
  · obtain ⟨l, rfl⟩ := rows_map (f := f) fun i hi => hf _ (hT i hi)
    exact ⟨false, 0, l, by simp [SL], by simpa [maxLen] using hl⟩
theorem globOps : Tryd.prog.globalNamed "interleave/format.operators" = some 0 := by kernel_rfl
theorem globKw : Tryd.prog.globalNamed "interleave/token.keywords" = some 3 := by kernel_rfl
theorem globPow : Tryd.prog.globalNamed "internal/strconv.uint64pow10" = some 2 := by kernel_rfl
/-- the tables that are read, out of what the rows list -/
theorem tabs_of {w : World} {laid : List (String × DataW Unit)} (h : laidMet Tryd.prog laid w) (hs : w.ShapedOpen Tryd.prog) (h1 : ("interleave/format.operators", Rows.laid_interleave_format_operators) ∈ laid) (h2 : ("internal/strconv.uint64pow10", Rows.laid_internal_strconv_uint64pow10) ∈ laid)
    (h3 : ("interleave/token.keywords", Rows.laid_interleave_token_keywords) ∈ laid) (h4 : ("strconv.ErrSyntax", Rows.laid_strconv_ErrSyntax) ∈ laid) (h5 : ("strconv.ErrRange", Rows.laid_strconv_ErrRange) ∈ laid) : ∃ m, Tabs (GT m) w := by
  obtain ⟨m, hm⟩ := tab_int (g := 1) (zero := #[.int .i64 0]) (t := 3) hs (of_decide_eq_true (by kernel_rfl)) (by kernel_rfl) rfl (by kernel_rfl) (by kernel_rfl) Tryd.underlying3
  refine ⟨m, fun g r hg => ?_⟩
  simp only [GT, List.mem_cons, List.not_mem_nil, or_false, Prod.mk.injEq] at hg
  rcases hg with ⟨rfl, rfl⟩ | ⟨rfl, rfl⟩ | ⟨rfl, rfl⟩ | ⟨rfl, rfl⟩ | ⟨rfl, rfl⟩ | ⟨rfl, rfl⟩ <;> first
    | exact hm
    | exact tab_ifc h h4 es_glob (by kernel_rfl) Tryd.underlying67
    | exact tab_ifc h h5 er_glob (by kernel_rfl) Tryd.underlying67
    | exact tab_lit (ts := [3, 9, 117, 144]) (t := 144) h h1 globOps (by kernel_rfl) (by kernel_rfl) (by decide) (by kernel_rfl) (by kernel_rfl)
    | exact tab_lit (ts := [9, 174]) (t := 174) h h3 globKw (by kernel_rfl) (by kernel_rfl) (by decide) (by kernel_rfl) (by kernel_rfl)
    | exact tab_lit (ts := [150, 168]) (t := 168) h h2 globPow (by kernel_rfl) (by kernel_rfl) (by decide) (by kernel_rfl) (by kernel_rfl)
end Go.Proofs.YtlehfgdhebapeaaDoor
