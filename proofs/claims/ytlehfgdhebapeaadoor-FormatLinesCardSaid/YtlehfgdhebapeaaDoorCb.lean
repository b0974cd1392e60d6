/- What every closing of this seat's laws needs: the tables, plain data out of what a row reads, the world of the witness. -/
import Derived.Test.YtlehfgdhebapeaaDoorCa
import Derived.Test.YtlehfgdhebapeaaDoorPa
set_option linter.all false
namespace Go.Proofs.YtlehfgdhebapeaaDoor
open Go.ChangeShapes Go.WideShapes Go.ChangeAt Go.RowKit KM

theorem ownKnob_none : ownKnob Tryd.prog.godebug = none := by kernel_rfl
theorem hasT_int {P : Program} {t : TypeId} {k : IntKind} {pcs : List V} (hu : P.underlying t = some (.int k)) (h : HasT P t pcs) : ∃ n, pcs = [.int k n] ∧ (Lit.int k n).wf = true := by
  cases h with
  | int hu' hw =>
    rw [hu] at hu'
    injection hu' with e
    injection e with e
    subst e
    exact ⟨_, rfl, hw⟩
  | _ => simp_all
theorem hasT_slice {P : Program} {t e : TypeId} {pcs : List V} (hu : P.underlying t = some (.slice e)) (h : HasT P t pcs) : pcs = [.nils] ∨ ∃ xs, pcs = [.lst 0 xs] ∧ xs.length ≤ maxLen ∧ ∀ i, i < xs.length → HasT P e (xs.getD i []) := by
  cases h with
  | nils _ => exact .inl rfl
  | lst hu' hl hT =>
    rw [hu] at hu'
    injection hu' with e
    injection e with e
    subst e
    exact .inr ⟨_, rfl, hl, hT⟩
  | _ => simp_all
/-- a list of rows of one form -/
theorem rows_map {α : Type} {f : α → List V} : ∀ {xs : List (List V)}, (∀ i, i < xs.length → ∃ a, xs.getD i [] = f a) → ∃ l : List α, xs = l.map f
  | [], _ => ⟨[], rfl⟩
  | x :: xs, h => by
    obtain ⟨a, ha⟩ := h 0 (by simp)
    obtain ⟨l, hl⟩ := rows_map (xs := xs) fun i hi => h (i + 1) (by simpa using hi)
    exact ⟨a :: l, by rw [hl]; simp at ha; simp [ha]⟩
theorem hasT_list {P : Program} {t e : TypeId} {α : Type} {f : α → List V} {pcs : List V} (hu : P.underlying t = some (.slice e)) (h : HasT P t pcs) (hf : ∀ r, HasT P e r → ∃ a, r = f a) : ∃ z u, ∃ l : List α, pcs = [SL z u (l.map f)] ∧ l.length ≤ 9223372036854775807 := by
  rcases hasT_slice hu h with rfl | ⟨xs, rfl, hl, hT⟩
  · exact ⟨true, 0, [], rfl, by simp⟩
  · obtain ⟨l, rfl⟩ := rows_map (f := f) fun i hi => hf _ (hT i hi)
    exact ⟨false, 0, l, by simp [SL], by simpa [maxLen] using hl⟩
theorem globOps : Tryd.prog.globalNamed "interleave/format.operators" = some 0 := by kernel_rfl
theorem globPow : Tryd.prog.globalNamed "internal/strconv.uint64pow10" = some 2 := by kernel_rfl
end Go.Proofs.YtlehfgdhebapeaaDoor
/- The tables that are read, where the row lays two of them. -/
namespace Go.Proofs.YtlehfgdhebapeaaDoor
open Go.ChangeShapes Go.WideShapes Go.ChangeAt Go.RowKit KM
theorem tabs_of2 {w : World} {laid : List (String × DataW Unit)} (h : laidMet Tryd.prog laid w) (h1 : ("interleave/format.operators", Rows.laid_interleave_format_operators) ∈ laid) (h2 : ("internal/strconv.uint64pow10", Rows.laid_internal_strconv_uint64pow10) ∈ laid) : ∃ m, Tabs (GT m) w := by
  refine ⟨0, fun g r hg => ?_⟩
  simp only [GT, List.mem_cons, List.not_mem_nil, or_false, Prod.mk.injEq] at hg
  rcases hg with ⟨rfl, rfl⟩ | ⟨rfl, rfl⟩ <;> first
    | exact tab_lit (ts := [3, 9, 117, 144]) (t := 144) h h1 globOps (by kernel_rfl) (by kernel_rfl) (by decide) (by kernel_rfl) (by kernel_rfl)
    | exact tab_lit (ts := [150, 168]) (t := 168) h h2 globPow (by kernel_rfl) (by kernel_rfl) (by decide) (by kernel_rfl) (by kernel_rfl)
end Go.Proofs.YtlehfgdhebapeaaDoor
/- The world of the witness: the settled one, the listed variables holding what their initialisers lay. -/
namespace Go.Proofs.YtlehfgdhebapeaaDoor
open Go.ChangeShapes Go.WideShapes Go.ChangeAt Go.RowKit KM
theorem and_t {a b : Bool} (h1 : a = true) (h2 : b = true) : (a && b) = true := by rw [h1, h2]; rfl
/-- a block that holds a table -/
def setRow (d : DataW Unit) : Obj → Obj
  | .cells _ t frozen => .cells (flatV d).toArray t frozen
  | o => o
/-- a block that holds an error that errors.New makes -/
def setErr (b : Nat) : Obj → Obj
  | .cells _ t frozen => .cells #[.iface 212 (.pointer (some ⟨b, 0, none⟩))] t frozen
  | o => o
def errText : DataW Unit → Array UInt8
  | .iface _ (.ptr (.agg [.lit (.string l)])) => l.toArray
  | _ => #[]
noncomputable def holds0 (os : Os) : Array Obj := (World.holding Tryd.prog os ⟨#[], #[], []⟩).heap
noncomputable def laidWorld (os : Os) : World :=
  { World.holding Tryd.prog os ⟨#[], #[], []⟩ with heap := ((((((((((holds0 os).modify 0 (setRow Rows.laid_interleave_format_operators)).modify 2 (setRow Rows.laid_internal_strconv_uint64pow10)).modify 4 (setRow Rows.laid_math_bits_deBruijn32tab)).modify 5 (setRow Rows.laid_math_bits_deBruijn64tab)).modify 7 (setRow Rows.laid_unicode_utf8_acceptRanges)).modify 3 (setRow Rows.laid_interleave_token_keywords)).modify 6 (setRow Rows.laid_unicode_utf8_first)).modify 9 (setErr (holds0 os).size)).modify 8 (setErr ((holds0 os).size + 1))).push (.cells #[.string ⟨errText Rows.laid_strconv_ErrRange⟩] 214 (0, 0)) |>.push (.cells #[.string ⟨errText Rows.laid_strconv_ErrSyntax⟩] 214 (0, 0)) }
end Go.Proofs.YtlehfgdhebapeaaDoor
/- What a row reads: bytes. -/
namespace Go.Proofs.YtlehfgdhebapeaaDoor
open Go.ChangeShapes Go.WideShapes Go.ChangeAt Go.RowKit KM
theorem u8_of {P : Program} {t : TypeId} {pcs : List V} (hu : P.underlying t = some (.int .u8)) (h : HasT P t pcs) : ∃ n : Nat, n < 256 ∧ pcs = [.int .u8 (n : Int)] := by
  obtain ⟨n, rfl, hw⟩ := hasT_int hu h
  simp only [Lit.wf, Bool.and_eq_true, decide_eq_true_eq] at hw
  have h1 : (0 : Int) ≤ n := hw.1
  have h2 : n ≤ 255 := hw.2
  refine ⟨n.toNat, by omega, ?_⟩
  rw [Int.toNat_of_nonneg h1]
theorem bts_of {pcs : List V} (h : HasT Tryd.prog 22 pcs) : ∃ z u, ∃ l : List UInt8, pcs = [SL z u (byteRows l)] ∧ l.length ≤ 9223372036854775807 := by
  obtain ⟨z, u, l, rfl, hl⟩ := hasT_list (f := fun c : UInt8 => [V.int .u8 (c.toNat : Int)]) Tryd.underlying22 h fun r hr => by
    obtain ⟨n, hn, rfl⟩ := u8_of Tryd.underlying5 hr
    exact ⟨UInt8.ofNat n, by simp [Nat.mod_eq_of_lt hn]⟩
  exact ⟨z, u, l, rfl, hl⟩
end Go.Proofs.YtlehfgdhebapeaaDoor
