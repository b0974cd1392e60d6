/- Plain: parsed programs are shaped, and their texts are not too long. -/
import Derived.Test.YtlehfgdhebapeaaDoorLi
set_option linter.all false
namespace Go.Proofs.YtlehfgdhebapeaaDoor.KM
open Go
theorem scan_len : ∀ (n : Nat) (ln : Int) (l : List UInt8) (ts : List Tk), scanE n ln l = some ts → ts.length ≤ l.length
  | n, ln, [], ts, h => by
    have : scanE n ln [] = some [] := by cases n <;> rfl
    rw [this] at h
    cases h
    exact Nat.le_refl _
  | 0, ln, c :: r, ts, h => by cases h
  | n + 1, ln, c :: r, ts, h => by
    rw [scanE] at h
    split at h
    · have := scan_len n _ _ _ h
      simp only [List.length_cons]; omega
    · split at h
      · have := scan_len n _ _ _ h
        simp only [List.length_cons]; omega
      · split at h
        · have h1 := scan_len n _ _ _ h
          have h2 := drop_le (· != 10) (c :: r)
          omega
        · split at h
          · cases h
          · rename_i k w hf
            simp only [Option.map_eq_some_iff] at h
            obtain ⟨l, hl, rfl⟩ := h
            obtain ⟨h1, q, h2⟩ := first_some hf
            have h3 := scan_len n _ _ _ hl
            rw [List.length_drop] at h3
            have : (c :: r).length = w.length + q.length := by rw [h2, List.length_append]
            simp only [List.length_cons] at this h3 ⊢
            omega
/-! programs that are equal apart from lines have one text -/
theorem same_idx : ∀ {l l' : List Xp}, sameXs l l' = true → idxE l = idxE l'
  | [], [], _ => rfl
  | x :: l, y :: l', h => by
    simp only [sameXs, Bool.and_eq_true] at h
    simp only [idxE, (same_toks x y h.1).2.2]
  | [], _ :: _, h => by cases h
  | _ :: _, [], h => by cases h
mutual
theorem same_sp : ∀ (s s' : Sp), sameS s s' = true → ∀ d, s.txt d = s'.txt d
  | ⟨op, line, nm, arg, iz, it, idx, ex, bz, bt, body, ez, et, els⟩, ⟨op', line', nm', arg', iz', it', idx', ex', bz', bt', body', ez', et', els'⟩, h, d => by
    simp only [sameS, Bool.and_eq_true, beq_iff_eq] at h
    obtain ⟨rfl, rfl, rfl, hx, hi, hb, he⟩ := h
    have h1 := (same_toks ex ex' hx).2.2
    have h2 := same_idx hi
    have h3 := same_sps body body' hb (d + 1)
    have h4 := same_sps els els' he (d + 1)
    rw [stxt_eq, stxt_eq]
    simp only [headE, h1, h2, h3.1, h4.1, h4.2]
theorem same_sps : ∀ (l l' : List Sp), sameSs l l' = true → ∀ d, Sp.txts d l = Sp.txts d l' ∧ l.isEmpty = l'.isEmpty
  | [], [], _, d => ⟨rfl, rfl⟩
  | x :: l, y :: l', h, d => by
    simp only [sameSs, Bool.and_eq_true] at h
    rw [stxts_cons, stxts_cons, same_sp x y h.1 d, (same_sps l l' h.2 d).1]
    exact ⟨rfl, rfl⟩
  | [], _ :: _, h, _ => by cases h
  | _ :: _, [], h, _ => by cases h
end
end Go.Proofs.YtlehfgdhebapeaaDoor.KM
