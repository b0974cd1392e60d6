/- Rows of programs: lengths, settled cells; texts of declarations. -/
import Derived.Test.YtlehfgdhebapeaaDoorGd
import Derived.Test.YtlehfgdhebapeaaDoorGg
set_option linter.all false
namespace Go.Proofs.YtlehfgdhebapeaaDoor.KM
open Go
theorem init_le (n : Int) : (initE n).length ≤ 24 := by
  have := itoa_le n
  unfold initE
  split
  · simp
  · simp only [List.length_cons]; omega
theorem dlen {d : Dp} (h1 : d.nm.length ≤ 12) (h2 : d.on.length ≤ 12) : (declE d).length ≤ 80 := by
  have a1 := init_le d.init
  have a2 := itoa_le d.size
  have a3 : (if d.size = 0 then [] else 91 :: (itoaE d.size ++ [93])).length ≤ 23 := by
    split
    · simp
    · simp; omega
  unfold declE
  split
  · simp only [List.length_append, List.length_cons, List.length_nil]; omega
  split
  · simp only [List.length_append, List.length_cons, List.length_nil]; omega
  split
  · simp only [List.length_append, List.length_cons, List.length_nil]; omega
  split
  · simp only [List.length_append, List.length_cons, List.length_nil]; omega
  split
  · simp only [List.length_append, List.length_cons, List.length_nil]; omega
  · simp only [List.length_append, List.length_cons, List.length_nil]; omega
theorem join_cons (a : List UInt8) (l : List (List UInt8)) : (joinE (a :: l)).length ≤ a.length + 2 + (joinE l).length := by
  cases l with
  | nil => simp [joinE]
  | cons b l => simp only [joinE, List.length_append, List.length_cons]; omega
theorem row_cell {v : V} (h : v.rowB = true) : v.cellB = true := by cases v <;> simp [V.rowB] at h <;> rfl
theorem cell_cells {v : V} (h : v.cellB = true) : v.cells = [v] ∧ [v].all V.cellB = true := ⟨by cases v <;> simp [V.cellB] at h <;> rfl, by simp only [List.all_cons, List.all_nil, h]; rfl⟩
def sRow (s : List UInt8) : List V := [.str s]
theorem gw_oth {s s' : St} {m m' e e' lo' n : Nat} {u w : V} {ys : List (List V)} (he : e ≠ e') (hu : u = .nils ∨ ∃ i g cs, u = .sl i g 0 n m true ∧ s[i]? = some (.row cs e g 0)) (h : GW s m' e' lo' w ys) (hf : ∀ j, (∀ i g, u = .sl i g 0 n m true → j ≠ i) → j < s.length → s'[j]? = s[j]?) : GW s' m' e' lo' w ys := by
  rcases h with h | ⟨hn, j, g, rfl, ho, hlo⟩
  · exact .inl h
  · refine .inr ⟨hn, j, g, rfl, ?_, hlo⟩
    rw [hf j ?_ (List.getElem?_eq_some_iff.1 ho).1]
    · exact ho
    · rintro i g' rfl rfl
      rcases hu with hu | ⟨i, g2, cs, hu, hs⟩
      · cases hu
      · cases hu
        rw [hs] at ho
        cases ho
        exact he rfl
theorem gw_shp {s : St} {m e lo : Nat} {u : V} {xs : List (List V)} (h : GW s m e lo u xs) : u = .nils ∨ ∃ i g cs, u = .sl i g 0 xs.length m true ∧ s[i]? = some (.row cs e g 0) := by
  rcases h with ⟨h, -⟩ | ⟨-, i, g, h, ho, -⟩
  · exact .inl h
  · exact .inr ⟨i, g, _, h, ho⟩
theorem sl_rowB (z : Bool) (t : Nat) (xs : List (List V)) : (SL z t xs).rowB = true := by
  unfold SL
  split <;> rfl
theorem trow_set (x : Tp) : x.row.all V.rowB = true := by
  unfold Tp.row
  simp only [List.all_cons, List.all_nil, sl_rowB]
  rfl
theorem drows_len (D : List Dp) : ∀ r ∈ D.map Dp.row, r.length = 6 := by intro r hr; obtain ⟨x, -, rfl⟩ := List.mem_map.1 hr; rfl
theorem drows_set (D : List Dp) : ∀ r ∈ D.map Dp.row, r.all V.rowB = true := by intro r hr; obtain ⟨x, -, rfl⟩ := List.mem_map.1 hr; rfl
theorem trows_len (D : List Tp) : ∀ r ∈ D.map Tp.row, r.length = 4 := by intro r hr; obtain ⟨x, -, rfl⟩ := List.mem_map.1 hr; rfl
theorem trows_set (D : List Tp) : ∀ r ∈ D.map Tp.row, r.all V.rowB = true := by intro r hr; obtain ⟨x, -, rfl⟩ := List.mem_map.1 hr; exact trow_set x
end Go.Proofs.YtlehfgdhebapeaaDoor.KM
