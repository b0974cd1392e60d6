/- What every closing of this seat's laws needs: the tables, plain data out of what a row reads, the world of the witness. -/
import Derived.Test.YtlehfgdhebapeaaDoorCa
import Derived.Test.YtlehfgdhebapeaaDoorPa
set_option linter.all false
namespace Go.Proofs.YtlehfgdhebapeaaDoor
open Go.ChangeShapes Go.WideShapes Go.ChangeAt Go.RowKit KM

theorem ownKnob_none : ownKnob Tryd.prog.godebug = none := by kernel_rfl
theorem hasT_int {P : Program} {t : TypeId} {k : IntKind} {pcs : List V} (hu : P.underlying t = some (.int k)) (h : HasT P t pcs) : ∃ n, pcs = [.int k n] ∧ (Lit.int k n).wf = true := by
  cases h with
  | int hu' hw =>
    rw [hu] at hu'
    injection hu' with e
    injection e with e
    subst e
    exact ⟨_, rfl, hw⟩
  | _ => simp_all
theorem hasT_str {P : Program} {t : TypeId} {pcs : List V} (hu : P.underlying t = some .string) (h : HasT P t pcs) : ∃ s : ByteArray, pcs = [.str s.data.toList] ∧ s.size ≤ maxLen := by
  cases h with
  | str hu' hs => exact ⟨_, rfl, hs⟩
  | _ => simp_all
theorem hasT_struct {P : Program} {t : TypeId} {fs : Array Field} {pcs : List V} (hu : P.underlying t = some (.struct fs)) (h : HasT P t pcs) : ∃ parts : List (List V), pcs = parts.flatten ∧ parts.length = fs.size ∧ ∀ i f, fs[i]? = some f → HasT P f.type (parts.getD i []) := by
  cases h with
  | struct parts hu' hl hT =>
    rw [hu] at hu'
    injection hu' with e
    injection e with e
    subst e
    exact ⟨parts, rfl, hl, hT⟩
  | _ => simp_all
theorem hasT_slice {P : Program} {t e : TypeId} {pcs : List V} (hu : P.underlying t = some (.slice e)) (h : HasT P t pcs) : pcs = [.nils] ∨ ∃ xs, pcs = [.lst 0 xs] ∧ xs.length ≤ maxLen ∧ ∀ i, i < xs.length → HasT P e (xs.getD i []) := by
  cases h with
  | nils _ => exact .inl rfl
  | lst hu' hl hT =>
    rw [hu] at hu'
    injection hu' with e
    injection e with e
    subst e
    exact .inr ⟨_, rfl, hl, hT⟩
  | _ => simp_all
/-- a list of rows of one form -/
theorem rows_map {α : Type} {f : α → List V} : ∀ {xs : List (List V)}, (∀ i, i < xs.length → ∃ a, xs.getD i [] = f a) → ∃ l : List α, xs = l.map f
  | [], _ => ⟨[], rfl⟩
  | x :: xs, h => by
    obtain ⟨a, ha⟩ := h 0 (by simp)
    obtain ⟨l, hl⟩ := rows_map (xs := xs) fun i hi => h (i + 1) (by simpa using hi)
    exact ⟨a :: l, by rw [hl]; simp at ha; simp [ha]⟩
theorem hasT_list {P : Program} {t e : TypeId} {α : Type} {f : α → List V} {pcs : List V} (hu : P.underlying t = some (.slice e)) (h : HasT P t pcs) (hf : ∀ r, HasT P e r → ∃ a, r = f a) : ∃ z u, ∃ l : List α, pcs = [SL z u (l.map f)] ∧ l.length ≤ 9223372036854775807 := by
  rcases hasT_slice hu h with rfl | ⟨xs, rfl, hl, hT⟩
  · exact ⟨true, 0, [], rfl, by simp⟩
  · obtain ⟨l, rfl⟩ := rows_map (f := f) fun i hi => hf _ (hT i hi)
    exact ⟨false, 0, l, by simp [SL], by simpa [maxLen] using hl⟩
theorem parts4 {α : Type} {ps : List (List α)} (h : ps.length = 4) : ∃ a b c d, ps = [a, b, c, d] := by
  match ps, h with
  | [a, b, c, d], _ => exact ⟨a, b, c, d, rfl⟩
theorem parts2 {α : Type} {ps : List (List α)} (h : ps.length = 2) : ∃ a b, ps = [a, b] := by
  match ps, h with
  | [a, b], _ => exact ⟨a, b, rfl⟩
theorem globOps : Tryd.prog.globalNamed "interleave/format.operators" = some 0 := by kernel_rfl
theorem globPow : Tryd.prog.globalNamed "internal/strconv.uint64pow10" = some 2 := by kernel_rfl
end Go.Proofs.YtlehfgdhebapeaaDoor
