/- Lists that grow and shrink at their end; what a struct and its lists may change. -/
import Derived.Test.YtlehfgdhebapeaaDoorA5
set_option linter.all false
namespace Go.Proofs.YtlehfgdhebapeaaDoor.KM
open Go
/-- a list in an object, behind which old cells may lie -/
def GS (σ : St) (m e : Nat) (u : V) (xs : List (List V)) : Prop :=
  ((∀ r ∈ xs, r.length = m) ∧ ∀ r ∈ xs, r.all V.rowB = true) ∧ ((u = .nils ∧ xs = []) ∨ ∃ i g r q, u = .sl i g 0 xs.length m true ∧ σ[i]? = some (.row (xs.flatten ++ r) e g 0) ∧ r.length = q * m ∧ r.all V.rowB = true)
theorem gs_nil {σ : St} {m e : Nat} : GS σ m e .nils [] := ⟨⟨by simp, by simp⟩, .inl ⟨rfl, rfl⟩⟩
theorem gs_cell {σ : St} {m e : Nat} {u : V} {xs : List (List V)} (h : GS σ m e u xs) : u.cellB = true := by
  rcases h.2 with ⟨rfl, -⟩ | ⟨i, g, r, q, rfl, -⟩ <;> rfl
theorem gs_len {σ : St} {m e : Nat} {u : V} {xs : List (List V)} (h : GS σ m e u xs) : lenV u = some (.int .i64 (xs.length : Int)) := by
  rcases h.2 with ⟨rfl, rfl⟩ | ⟨i, g, r, q, rfl, -⟩ <;> rfl
theorem gs_refs {σ : St} {m e : Nat} {u : V} {xs : List (List V)} (h : GS σ m e u xs) : ∀ i ∈ u.refs, i < σ.length := by
  rcases h.2 with ⟨rfl, rfl⟩ | ⟨i, g, r, q, rfl, ho, -⟩
  · intro i hi; simp [V.refs] at hi
  · intro j hj
    simp [V.refs] at hj
    subst hj
    exact (List.getElem?_eq_some_iff.1 ho).1
/-- the list depends on its own object alone -/
theorem gs_any {σ τ : St} {m e : Nat} {u : V} {xs : List (List V)} (h : GS σ m e u xs) (hk : ∀ i ∈ u.refs, τ[i]? = σ[i]?) : GS τ m e u xs := by
  refine ⟨h.1, ?_⟩
  rcases h.2 with h2 | ⟨i, g, r, q, rfl, ho, h2⟩
  · exact .inl h2
  · exact .inr ⟨i, g, r, q, rfl, by rw [hk i (by simp [V.refs])]; exact ho, h2⟩
theorem rowb_refs {cs : List V} (h : cs.all V.rowB = true) : refsL cs = [] := refsL_row h
theorem gs_push {σ : St} {m e bytes : Nat} {u : V} {xs : List (List V)} {row : List V} (h : GS σ m e u xs) (hm : 0 < m) (hrl : row.length = m) (hrow : row.all V.rowB = true) (hb : (xs.length + 1) * bytes ≤ 140737488355328) :
    ∃ u' σ', appV bytes (m, e) u (.lst 1 [row]) σ = some (u', σ') ∧ GS σ' m e u' (xs ++ [row]) ∧ σ.length ≤ σ'.length ∧ (∀ j, j < σ.length → j ∉ u.refs → σ'[j]? = σ[j]?) ∧ (∀ j ∈ u'.refs, j ∈ u.refs ∨ σ.length ≤ j) ∧ (Cl σ → Cl σ') := by
  obtain ⟨⟨hl, hr⟩, h⟩ := h
  have hall : ([row].all fun r => r.length == m) = true := by simp [hrl]
  have hl2 : ∀ r ∈ xs ++ [row], r.length = m := fun r hx => by
    rcases List.mem_append.1 hx with hx | hx
    · exact hl r hx
    · rw [List.mem_singleton.1 hx]; exact hrl
  have hr2 : ∀ r ∈ xs ++ [row], r.all V.rowB = true := fun r hx => by
    rcases List.mem_append.1 hx with hx | hx
    · exact hr r hx
    · rw [List.mem_singleton.1 hx]; exact hrow
  unfold appV
  simp only [srcRows, Option.bind_some]
  unfold appR
  rw [if_pos ⟨hall, hm⟩]
  rcases h with ⟨rfl, rfl⟩ | ⟨i, g, r, q, rfl, ho, hq, hrr⟩
  · simp only
    rw [if_pos (by simpa using hb), if_neg (by simp)]
    refine ⟨_, _, rfl, ⟨⟨hl2, hr2⟩, .inr ⟨σ.length, 0, [], 0, rfl, by simp, by simp, rfl⟩⟩, by simp, fun j hj _ => List.getElem?_append_left hj, fun j hj => ?_, fun hc => cl_push hc ?_⟩
    · simp [V.refs] at hj
      exact .inr (by omega)
    · simp [Ob.refs, rowb_refs hrow]
  · have hi : i < σ.length := (List.getElem?_eq_some_iff.1 ho).1
    have hf := flatL_len hl
    have hcl : (xs.flatten ++ r).length = xs.length * m + q * m := by rw [List.length_append, hf, hq]
    simp only
    rw [if_pos ⟨hb, trivial⟩]
    simp only [ho, if_true]
    rw [if_neg (by simp), if_pos ⟨trivial, trivial, trivial, Nat.zero_le _⟩]
    have hmul : (xs.length + [row].length) * m = xs.length * m + m := by rw [List.length_singleton, Nat.succ_mul]
    by_cases h0 : q = 0
    · subst h0
      have hr0 : r = [] := List.length_eq_zero_iff.1 (by omega)
      subst hr0
      rw [if_neg (by rw [hcl, hmul]; omega), if_pos (by rw [hcl]; omega)]
      refine ⟨_, _, rfl, ⟨⟨hl2, hr2⟩, .inr ⟨i, g + 1, [], 0, by rw [List.length_append], ?_, by simp, rfl⟩⟩, by simp, fun j hj hn => ?_, fun j hj => .inl hj, fun hc => cl_set hc ?_⟩
      · rw [List.getElem?_set_self hi]
        simp
      · have : i ≠ j := fun h => hn (by subst h; simp [V.refs])
        rw [List.getElem?_set_ne this]
      · simp only [Ob.refs, List.append_nil]
        rw [refs_app, rowb_refs (rows_all hr)]
        simp [rowb_refs hrow]
    · have hq1 : m ≤ q * m := Nat.le_mul_of_pos_left m (by omega)
      rw [if_pos (by rw [hcl, hmul]; omega), hmul]
      have e1 : (xs.flatten ++ r).take (xs.length * m) = xs.flatten := by rw [← hf, List.take_left]
      have e2 : (xs.flatten ++ r).drop (xs.length * m + m) = r.drop m := by rw [← hf, List.drop_append, List.drop_eq_nil_of_le (by omega), List.nil_append, Nat.add_sub_cancel_left]
      rw [e1, e2]
      have hrd : (r.drop m).all V.rowB = true := List.all_eq_true.2 fun c hc => List.all_eq_true.1 hrr c (List.mem_of_mem_drop hc)
      refine ⟨_, _, rfl, ⟨⟨hl2, hr2⟩, .inr ⟨i, g, r.drop m, q - 1, by rw [List.length_append], ?_, ?_, hrd⟩⟩, by simp, fun j hj hn => ?_, fun j hj => .inl hj, fun hc => cl_set hc ?_⟩
      · rw [List.getElem?_set_self hi]
        simp
      · rw [List.length_drop, hq, Nat.sub_mul, Nat.one_mul]
      · have : i ≠ j := fun h => hn (by subst h; simp [V.refs])
        rw [List.getElem?_set_ne this]
      · simp only [Ob.refs]
        rw [refs_app, refs_app, rowb_refs (rows_all hr), rowb_refs hrd]
        simp [rowb_refs hrow]
theorem bnd_nat (n d : Nat) : boundV (some (.int .i64 (n : Int))) d = some n := by
  unfold boundV
  simp
theorem gs_pop {σ : St} {m e : Nat} {u : V} {xs : List (List V)} {row : List V} (h : GS σ m e u (xs ++ [row])) : ∃ u', slcV m u none (some (.int .i64 (xs.length : Int))) none = some u' ∧ GS σ m e u' xs ∧ u'.refs = u.refs := by
  obtain ⟨⟨hl, hr⟩, h⟩ := h
  rcases h with ⟨-, h⟩ | ⟨i, g, r, q, rfl, ho, hq, hrr⟩
  · simp at h
  · refine ⟨.sl i g 0 xs.length m true, ?_, ⟨⟨fun r hx => hl r (List.mem_append_left _ hx), fun r hx => hr r (List.mem_append_left _ hx)⟩, .inr ⟨i, g, row ++ r, q + 1, rfl, ?_, ?_, ?_⟩⟩, rfl⟩
    · simp only [slcV, bnd_nat, boundV]
      simp
    · rw [ho]
      simp
    · rw [List.length_append, hq, hl row (by simp), Nat.succ_mul, Nat.add_comm]
    · rw [List.all_append, hr row (by simp), hrr]; rfl
/-- a row of the list is read -/
theorem gs_row {σ : St} {m e : Nat} {u : V} {xs : List (List V)} {row : List V} {i : Nat} (h : GS σ m e u xs) (hi : xs[i]? = some row) : ∃ j g cs, u = .sl j g 0 xs.length m true ∧ σ[j]? = some (.row cs e g 0) ∧ i * m + m ≤ cs.length ∧ (cs.drop (i * m)).take m = row := by
  obtain ⟨⟨hl, hr⟩, h⟩ := h
  have hil := (List.getElem?_eq_some_iff.1 hi).1
  rcases h with ⟨-, rfl⟩ | ⟨j, g, r, q, rfl, ho, hq, hrr⟩
  · simp at hi
  · have hf := flatL_len hl
    have hle : i * m + m ≤ xs.length * m := by rw [← Nat.succ_mul]; exact Nat.mul_le_mul_right m hil
    refine ⟨j, g, _, rfl, ho, by rw [List.length_append, hf]; omega, ?_⟩
    have hs : xs = xs.take i ++ row :: xs.drop (i + 1) := by
      have h1 := List.drop_eq_getElem_cons hil
      rw [(List.getElem?_eq_some_iff.1 hi).2] at h1
      rw [← h1, List.take_append_drop]
    have ht : (xs.take i).flatten.length = i * m := by
      rw [flatL_len fun r hr => hl r (List.mem_of_mem_take hr), List.length_take, Nat.min_eq_left (by omega)]
    have hrl := hl row (List.mem_of_getElem? hi)
    conv => lhs; rw [hs]
    rw [List.flatten_append, List.flatten_cons, List.append_assoc, List.append_assoc, ← ht, List.drop_left, ← hrl, List.take_left]
/-- the list goes over to a pure function -/
theorem gs_oc {σ : St} {m e : Nat} {u : V} {xs : List (List V)} (h : GS σ m e u xs) (hm : 0 < m) : ∃ z, OC σ u (SL z 0 xs) := by
  obtain ⟨⟨hl, hr⟩, h⟩ := h
  rcases h with ⟨rfl, rfl⟩ | ⟨i, g, r, q, rfl, ho, hq, hrr⟩
  · exact ⟨true, oc_row rfl⟩
  · refine ⟨false, fun js hj d => ?_⟩
    have hi : js.elem i = true := by
      have := hj i (by simp [V.refs])
      simpa using this
    have hf := flatL_len hl
    unfold settle
    rw [if_neg (by simp [V.rowB])]
    simp only [hi, if_true, ho]
    rw [if_pos ⟨trivial, hm, by rw [List.length_append, hf]; omega⟩, List.drop_zero, ← hf, List.take_left, mapM_id fun c hc => ?_]
    · simp only [Option.map_some, chopL_flat hl]
      rfl
    · obtain ⟨r, hrx, hcr⟩ := List.mem_flatten.1 hc
      exact settle_row (List.all_eq_true.1 (hr r hrx) c hcr)
theorem put_at (a b c cells : List V) (h : c.length = cells.length) : putAt (a ++ (c ++ b)) a.length cells = some (a ++ (cells ++ b)) := by
  unfold putAt
  rw [if_pos (by simp only [List.length_append]; omega), List.take_left, ← List.append_assoc a c b, List.drop_append]
  rw [List.drop_eq_nil_of_le (by simp only [List.length_append]; omega), List.nil_append, List.length_append, ← h]
  simp
/-- the last row of the list is written -/
theorem gs_put {σ : St} {m e : Nat} {u : V} {xs : List (List V)} {r0 row : List V} (h : GS σ m e u (xs ++ [r0])) (hrl : row.length = m) (hrow : row.all V.rowB = true) : ∃ j g cs', u = .sl j g 0 (xs.length + 1) m true ∧ j < σ.length ∧ (∀ τ : St, τ[j]? = σ[j]? → storeV τ m (.ptr j g (0 + xs.length * m)) (.agg row) = some (τ.set j (.row cs' e g 0)) ∧ (j < τ.length → GS (τ.set j (.row cs' e g 0)) m e u (xs ++ [row]))) ∧ refsL cs' = [] := by
  obtain ⟨⟨hl, hr⟩, h⟩ := h
  rcases h with ⟨-, h⟩ | ⟨j, g, r, q, rfl, ho, hq, hrr⟩
  · simp at h
  · have hf := flatL_len fun r hx => hl r (List.mem_append_left _ hx)
    have hr0 := hl r0 (by simp)
    have hx : xs.flatten.all V.rowB = true := rows_all fun r hx => hr r (List.mem_append_left _ hx)
    have hcell : row.all V.cellB = true := cb_row hrow
    have hcs : (V.agg row).cells = row := rfl
    refine ⟨j, g, xs.flatten ++ (row ++ r), by simp, (List.getElem?_eq_some_iff.1 ho).1, fun τ hk => ⟨?_, fun hj => ⟨⟨fun r hx => ?_, fun r hx => ?_⟩, .inr ⟨j, g, r, q, by simp, ?_, hq, hrr⟩⟩⟩, ?_⟩
    · simp only [storeV, hk, ho, hcs]
      rw [if_pos ⟨trivial, Nat.zero_le _, hrl, hcell⟩, Nat.zero_add, ← hf]
      have : (xs ++ [r0]).flatten ++ r = xs.flatten ++ (r0 ++ r) := by simp
      rw [this, put_at _ _ _ _ (by omega)]
      rfl
    · rcases List.mem_append.1 hx with hx | hx
      · exact hl r (List.mem_append_left _ hx)
      · rw [List.mem_singleton.1 hx]; exact hrl
    · rcases List.mem_append.1 hx with hx | hx
      · exact hr r (List.mem_append_left _ hx)
      · rw [List.mem_singleton.1 hx]; exact hrow
    · rw [List.getElem?_set_self hj]
      simp
    · rw [refs_app, refs_app, rowb_refs hx, rowb_refs hrow, rowb_refs hrr]
      rfl
/-! what a struct and its lists may change -/
def fp (σ : St) (w : Nat) : List Nat := w :: match σ[w]? with
  | some ob => ob.refs
  | none => []
theorem fp_row {σ : St} {w : Nat} {cs : List V} {t g z : Nat} (h : σ[w]? = some (.row cs t g z)) : fp σ w = w :: refsL cs := by
  unfold fp
  rw [h]
  rfl
/-- only the struct at w and what it names turned -/
def FW (w : Nat) (σ τ : St) : Prop := σ.length ≤ τ.length ∧ (∀ j, j < σ.length → j ∉ fp σ w → τ[j]? = σ[j]?) ∧ (∀ j ∈ fp τ w, j ∈ fp σ w ∨ σ.length ≤ j)
theorem fw_refl (w : Nat) (σ : St) : FW w σ σ := ⟨Nat.le_refl _, fun _ _ _ => rfl, fun _ h => .inl h⟩
theorem fw_trans {w : Nat} {σ τ υ : St} (h : FW w σ τ) (h' : FW w τ υ) : FW w σ υ := by
  refine ⟨Nat.le_trans h.1 h'.1, fun j hj hn => ?_, fun j hj => ?_⟩
  · rw [h'.2.1 j (by have := h.1; omega) fun hm => ?_, h.2.1 j hj hn]
    rcases h.2.2 j hm with h2 | h2
    · exact hn h2
    · omega
  · rcases h'.2.2 j hj with h2 | h2
    · exact h.2.2 j h2
    · exact .inr (by have := h.1; omega)
/-- new objects behind -/
theorem fw_push {w : Nat} {σ : St} (l : St) (hw : w < σ.length) : FW w σ (σ ++ l) := by
  refine ⟨by simp, fun j hj _ => List.getElem?_append_left hj, fun j hj => ?_⟩
  unfold fp at hj ⊢
  rw [List.getElem?_append_left hw] at hj
  exact .inl hj
/-- an object that is not the struct's turns -/
theorem fw_set {w : Nat} {σ τ : St} {j : Nat} {x : Ob} (h : FW w σ τ) (hj : σ.length ≤ j) (hw : w < σ.length) : FW w σ (τ.set j x) := by
  refine ⟨by simpa using h.1, fun i hi hn => ?_, fun i hi => ?_⟩
  · rw [List.getElem?_set_ne (by omega)]
    exact h.2.1 i hi hn
  · unfold fp at hi
    rw [List.getElem?_set_ne (by omega)] at hi
    exact h.2.2 i hi
/-- the struct itself is written -/
theorem fw_own {w : Nat} {σ τ : St} {cs : List V} {t g z : Nat} (h : FW w σ τ) (hw : w < σ.length) (hc : ∀ j ∈ refsL cs, j ∈ fp σ w ∨ σ.length ≤ j) : FW w σ (τ.set w (.row cs t g z)) := by
  have hm : w ∈ fp σ w := by unfold fp; exact List.mem_cons_self
  refine ⟨by simpa using h.1, fun i hi hn => ?_, fun i hi => ?_⟩
  · rw [List.getElem?_set_ne (fun e => hn (by rw [← e]; exact hm))]
    exact h.2.1 i hi hn
  · rw [fp_row (List.getElem?_set_self (by have := h.1; omega))] at hi
    rcases List.mem_cons.1 hi with rfl | hi
    · exact .inl hm
    · exact hc i hi
/-- one of the struct's own objects is written -/
theorem fw_ref {w : Nat} {σ τ υ : St} {B : List Nat} (h : FW w σ τ) (hw : w < σ.length) (hl : τ.length ≤ υ.length) (hB : ∀ j ∈ B, j ∈ fp σ w ∨ σ.length ≤ j) (hk : ∀ j, j < τ.length → j ∉ B → υ[j]? = τ[j]?) (hwB : w ∉ B) : FW w σ υ := by
  refine ⟨Nat.le_trans h.1 hl, fun i hi hn => ?_, fun i hi => ?_⟩
  · rw [hk i (by have := h.1; omega) fun hm => ?_, h.2.1 i hi hn]
    rcases hB i hm with h2 | h2
    · exact hn h2
    · omega
  · unfold fp at hi
    rw [hk w (by have := h.1; omega) hwB] at hi
    exact h.2.2 i hi
end Go.Proofs.YtlehfgdhebapeaaDoor.KM
