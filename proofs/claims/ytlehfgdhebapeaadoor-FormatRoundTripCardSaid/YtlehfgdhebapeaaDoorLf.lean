/- Plain: no parentheses of an expression's text can be left out. -/
import Derived.Test.YtlehfgdhebapeaaDoorLe
set_option linter.all false
namespace Go.Proofs.YtlehfgdhebapeaaDoor.KM
open Go
/-! equal expressions have the same tokens and texts -/
mutual
theorem same_toks : ∀ (x y : Xp), sameX x y = true → x.op = y.op ∧ x.toks = y.toks ∧ x.txt = y.txt
  | ⟨op, n, nm, z, t, l⟩, ⟨op', n', nm', z', t', l'⟩, h => by
    simp only [sameX, Bool.and_eq_true, beq_iff_eq] at h
    obtain ⟨rfl, rfl, rfl, h⟩ := h
    obtain ⟨h1, h2⟩ := same_tokss l l' h
    simp only [Xp.toks, Xp.txt, h1, h2]
    exact ⟨trivial, trivial, trivial⟩
theorem same_tokss : ∀ (l l' : List Xp), sameXs l l' = true → Xp.tokss l = Xp.tokss l' ∧ Xp.txts l = Xp.txts l'
  | [], [], _ => ⟨rfl, rfl⟩
  | x :: l, y :: l', h => by
    simp only [sameXs, Bool.and_eq_true] at h
    obtain ⟨h1, h2, h3⟩ := same_toks x y h.1
    obtain ⟨h4, h5⟩ := same_tokss l l' h.2
    simp only [Xp.tokss, Xp.txts, h1, h2, h3, h4, h5]
    exact ⟨trivial, trivial⟩
  | [], _ :: _, h => by cases h
  | _ :: _, [], h => by cases h
end
/-! what is parsed has no more tokens than its text needs -/
/-! parentheses -/
def flatB (l : List UInt8) : Prop := ∀ c ∈ l, c ≠ 40 ∧ c ≠ 41
end Go.Proofs.YtlehfgdhebapeaaDoor.KM
