/- strings.Join, known by what it returns. -/
import Derived.Test.YtlehfgdhebapeaaDoorNa
import Derived.Lib.Join
set_option linter.all false
namespace Go.Proofs.YtlehfgdhebapeaaDoor.KM
open Go Go.RowKit Go.Sort
variable {G : List (Nat × List V)}
def strRows : List (List V) → Option (List (List UInt8))
  | [] => some []
  | [.str l] :: r => (strRows r).map (l :: ·)
  | _ => none
def joinS : List V → Option V
  | [.nils, .str _] => some (.str [])
  | [.lst _ xs, .str sep] => (strRows xs).bind fun ls => if xs.length ≤ 140737488355328 ∧ (Lib.join ls sep).length ≤ 140737488355328 then some (.str (Lib.join ls sep)) else none
  | _ => none
theorem strRows_at : ∀ {xs : List (List V)} {ls : List (List UInt8)}, strRows xs = some ls → ls.length = xs.length ∧ ∀ (j : Nat) l, ls[j]? = some l → xs.getD j [] = [.str l]
  | [], ls, h => by
    simp [strRows] at h
    subst h
    exact ⟨rfl, fun j x hj => by simp at hj⟩
  | r :: xs, ls, h => by
    unfold strRows at h
    split at h
    · rename_i e; cases e
    · rename_i l r' e
      injection e with e1 e2
      subst e1 e2
      simp only [Option.map_eq_some_iff] at h
      obtain ⟨l', h, rfl⟩ := h
      obtain ⟨g1, g2⟩ := strRows_at h
      refine ⟨by simp [g1], fun j x hj => ?_⟩
      cases j with
      | zero => simp at hj; rw [← hj]; rfl
      | succ j => exact g2 j x (by simpa using hj)
    · cases h
theorem strRows_map : ∀ l : List (List UInt8), strRows (l.map fun s => [V.str s]) = some l
  | [] => rfl
  | a :: l => by rw [List.map_cons, strRows, strRows_map l]; rfl
theorem join_ok : PrimOk Tryd.prog G 25 joinS := by
  refine ⟨⟨Tryd.f25, _, by kernel_rfl, rfl, by decide⟩, fun κ w vs us v hg hs hd hl ha h => ?_⟩
  unfold joinS at h
  split at h
  · rename_i sep
    cases h
    obtain ⟨a, b, rfl⟩ := two hl
    have h1 := repC_nils (rep1_cell rfl (ha 0 (by simp)))
    have h2 := (repC_str (rep1_cell rfl (ha 1 (by simp)))).1
    have h1 : a = .slice none 0 0 := h1
    have h2 : b = .string ⟨sep.toArray⟩ := h2
    subst h1 h2
    refine (Tryd.strings_Join_none none 0 ⟨sep.toArray⟩ w).mono ?_
    rintro e w' ⟨rfl, rfl⟩
    exact prim_fin hd (by simp) ⟨rfl, Below.refl _ _⟩
  · rename_i t xs sep
    simp only [Option.bind_eq_some_iff] at h
    obtain ⟨ls, hls, h⟩ := h
    split at h
    · rename_i hc
      cases h
      obtain ⟨a, b, rfl⟩ := two hl
      obtain ⟨ad, cap, h1, hR, _⟩ := repC_lst (rep1_cell rfl (ha 0 (by simp)))
      have h2 := (repC_str (rep1_cell rfl (ha 1 (by simp)))).1
      have h1 : a = .slice (some ad) xs.length cap := h1
      have h2 : b = .string ⟨sep.toArray⟩ := h2
      subst h1 h2
      obtain ⟨r1, r2⟩ := strRows_at hls
      rcases Nat.eq_zero_or_pos xs.length with h0 | hpos
      · have hx0 : xs = [] := List.eq_nil_of_length_eq_zero h0
        subst hx0
        have hl0 : ls = [] := List.eq_nil_of_length_eq_zero (by simpa using r1)
        subst hl0
        refine (Tryd.strings_Join_none (some ad) cap ⟨sep.toArray⟩ w).mono ?_
        rintro e w' ⟨rfl, rfl⟩
        exact prim_fin hd (by simp [Lib.join, List.intercalate]) ⟨by simp [Lib.join, List.intercalate], Below.refl _ _⟩
      · cases hR with
        | @lst _ _ _ _ m row k1 k2 k3 k4 k5 k6 k7 =>
        obtain ⟨hsp, k, hk, hle⟩ := k4 hpos
        obtain ⟨blk, off, sp⟩ := ad
        simp at hsp
        subst hsp
        have hm : m = 1 := by
          have h5 := k5 0 hpos
          have := r2 0 (ls[0]'(by omega)) (by simp)
          rw [this] at h5
          simpa using h5.symm
        subst hm
        have hlen : xs.length = (ls.map fun l => (⟨l.toArray⟩ : ByteArray)).length := by simp [r1]
        have hmap : (ls.map fun l => (⟨l.toArray⟩ : ByteArray)).map (·.data.toList) = ls := by simp [Function.comp_def]
        have hJ := Tryd.strings_Join blk off cap (ls.map fun l => ⟨l.toArray⟩) ⟨sep.toArray⟩ w (fun j x hj => by
          simp only [List.getElem?_map, Option.map_eq_some_iff] at hj
          obtain ⟨l, hl, rfl⟩ := hj
          have hjl : j < xs.length := by rw [← r1]; exact (List.getElem?_eq_some_iff.1 hl).1
          have a1 := k6 j 0 hjl (by omega)
          have a2 := k7 j 0 hjl (by omega)
          rw [r2 j l hl] at a2
          have a3 := (repC_str (γ := ⟨κ, []⟩) (.row a2)).1
          rw [a3] at a1
          simpa using a1) (hd _ _ hk) (by rw [← hlen]; exact hc.1) (by rw [← hlen]; exact k2) (by rw [hmap]; exact hc.2)
        rw [hmap, ← hlen] at hJ
        exact hJ.mono fun e w' hh => prim_fin hd (by unfold maxLen; omega) hh
    · cases h
  · cases h
end Go.Proofs.YtlehfgdhebapeaaDoor.KM
