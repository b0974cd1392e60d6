/- Plain: the text of a shaped program is scanned and parsed as that program, apart from lines. -/
import Derived.Test.YtlehfgdhebapeaaDoorLd
set_option linter.all false
namespace Go.Proofs.YtlehfgdhebapeaaDoor.KM
open Go
/-! declarations -/
/-! threads -/
theorem pexpr_text (hd : DigRT) (hnum : NumRT) {x : Xp} (h : ShE x) (hl : x.txt.length ≤ 4096) : ∃ y, pexprE x.txt = some y ∧ sameX x y = true := by
  have hs := (txt_tx hd h).1 [] clean_nil
  rw [List.append_nil, sk_nil] at hs
  unfold scanK kts cons at hs
  obtain ⟨ts, h1, h2⟩ := Option.map_eq_some_iff.1 hs
  simp only [Option.map_some, List.append_nil] at h1 h2
  obtain ⟨y, ts', h3, h4, h5⟩ := rt_expr hnum h (n := fuelT ts.length) (ts := ts) (r := []) (by simpa using h2) ⟨fun _ _ => rfl, rfl⟩ (by unfold fuelT; omega)
  have h6 : ts' = [] := by simpa using h4
  subst h6
  refine ⟨y, ?_, h5⟩
  unfold pexprE
  rw [if_neg (by omega), h1]
  simp only
  rw [h3]
end Go.Proofs.YtlehfgdhebapeaaDoor.KM
