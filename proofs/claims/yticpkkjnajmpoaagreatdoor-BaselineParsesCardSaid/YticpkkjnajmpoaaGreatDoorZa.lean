/- Walks: entries inserted into a list whose rows name lists of their own. -/
import Derived.Test.YticpkkjnajmpoaaGreatDoorYb
import Derived.Test.YticpkkjnajmpoaaGreatDoorPz
set_option linter.all false
namespace Go.Proofs.YticpkkjnajmpoaaGreatDoor.KM
open Go
theorem ow_on {σ : St} {v v' : V} (h : ON σ v v') (hc : v.cellB = true) : OW σ v v' := fun js hj => by
  have := h js hj 6
  unfold settle1
  cases v <;> simp [V.cellB] at hc <;> first | exact this | (simp [settle, V.rowB] at this)
theorem flat_drop {m : Nat} {xs : List (List V)} (hl : ∀ r ∈ xs, r.length = m) {i : Nat} (hi : i ≤ xs.length) : xs.flatten.drop (i * m) = (xs.drop i).flatten := by
  have h1 : xs.flatten = (xs.take i).flatten ++ (xs.drop i).flatten := by rw [← List.flatten_append, List.take_append_drop]
  have h2 : (xs.take i).flatten.length = i * m := by
    rw [flatL_len fun r hr => hl r (List.mem_of_mem_take hr), List.length_take, Nat.min_eq_left hi]
  rw [h1, ← h2, List.drop_left]
theorem chop_part {m : Nat} {xs : List (List V)} (hl : ∀ r ∈ xs, r.length = m) {i : Nat} (hi : i ≤ xs.length) : chop m i xs.flatten = xs.take i := by
  have h1 : xs.flatten = (xs.take i).flatten ++ (xs.drop i).flatten := by rw [← List.flatten_append, List.take_append_drop]
  have h2 := chopL_app m (xs.take i) (xs.drop i).flatten fun r hr => hl r (List.mem_of_mem_take hr)
  rw [List.length_take, Nat.min_eq_left hi] at h2
  rw [h1]
  exact h2
theorem gw_cut_hi {σ : St} {m e lo : Nat} {u : V} {xs : List (List V)} (h : GW σ m e lo u xs) (hl : ∀ r ∈ xs, r.length = m) {i : Nat} (hi : i ≤ xs.length) :
    ∃ a, slcV m u none (some (.int .i64 (i : Int))) none = some a ∧ ∀ σ' : St, (∀ j, j < σ.length → σ'[j]? = σ[j]?) → srcRows σ' m a = some (xs.take i) := by
  rcases h with ⟨rfl, rfl⟩ | ⟨hn, b, g, rfl, ho, hlo⟩
  · obtain rfl : i = 0 := by simpa using hi
    exact ⟨.nils, rfl, fun _ _ => rfl⟩
  · refine ⟨.sl b g (0 + 0 * m) (i - 0) m true, ?_, fun σ' hk => ?_⟩
    · simp only [slcV, bound_nat, boundV]
      simp [hi]
    · have := (hk b (List.getElem?_eq_some_iff.1 ho).1).trans ho
      have hf := flatL_len hl
      have hle : i * m ≤ xs.length * m := Nat.mul_le_mul_right m hi
      simp only [srcRows, this]
      rw [Nat.sub_zero, if_pos ⟨trivial, trivial, by omega⟩, Nat.zero_mul, Nat.add_zero, List.drop_zero, chop_part hl hi]
theorem gw_cut_lo {σ : St} {m e lo : Nat} {u : V} {xs : List (List V)} (h : GW σ m e lo u xs) (hl : ∀ r ∈ xs, r.length = m) {i : Nat} (hi : i ≤ xs.length) :
    ∃ a, slcV m u (some (.int .i64 (i : Int))) none none = some a ∧ ∀ σ' : St, (∀ j, j < σ.length → σ'[j]? = σ[j]?) → srcRows σ' m a = some (xs.drop i) := by
  rcases h with ⟨rfl, rfl⟩ | ⟨hn, b, g, rfl, ho, hlo⟩
  · obtain rfl : i = 0 := by simpa using hi
    exact ⟨.nils, rfl, fun _ _ => rfl⟩
  · refine ⟨.sl b g (0 + i * m) (xs.length - i) m true, ?_, fun σ' hk => ?_⟩
    · simp only [slcV, bound_nat, boundV]
      simp [hi]
    · have := (hk b (List.getElem?_eq_some_iff.1 ho).1).trans ho
      have hf := flatL_len hl
      have hle : i * m + (xs.length - i) * m = xs.length * m := by rw [← Nat.add_mul]; congr 1; omega
      simp only [srcRows, this]
      rw [if_pos ⟨trivial, trivial, by omega⟩, Nat.zero_add, flat_drop hl hi]
      have := chopL_flat (m := m) (xs := xs.drop i) fun r hr => hl r (List.mem_of_mem_drop hr)
      rw [List.length_drop] at this
      rw [this]
theorem res4 {τ : St} {i x t : Nat} {a b c d : V} {e : Env} (h : τ[i]? = some (.row [a, b, c, d] t 0 0)) (h1 : e.get x = .ptr i 0 0) : resV e τ [AR.cell x 4 false] = some (.agg [a, b, c, d]) := by
  simp only [resV, resOne, h1, loadV, h]
  rfl
theorem pre_ex {a s : St} (h : ∀ j, j < a.length → s[j]? = a[j]?) : ∃ J, s = a ++ J := ⟨s.drop a.length, List.ext_getElem? fun j => by
  by_cases hj : j < a.length
  · rw [h j hj, List.getElem?_append_left hj]
  · rw [List.getElem?_append_right (by omega), List.getElem?_drop]
    congr 1
    omega⟩
/-- a copy with a list of its own -/
theorem rcopied_any {σ : St} {w : V} {x : Ent} (hc : Cl σ) (hw : ∀ J : St, srcRows (σ ++ J) 3 w = some (x.sites.map krow)) (hwc : w.cellB = true) (hwr : ∀ i ∈ w.refs, i < σ.length) (hn : x.sites ≠ []) (hb : x.sites.length ≤ 1000000) :
    ∃ w' J, ThP TT PT 62 [.agg [.int .i64 x.kind, w, .int .i64 x.seen, .int .i64 x.missed]] σ (.agg [.int .i64 x.kind, w', .int .i64 x.seen, .int .i64 x.missed]) (σ ++ J) ∧ Cl (σ ++ J) ∧ GW (σ ++ J) 3 41 σ.length w' (x.sites.map krow) := by
  have hn2 : x.sites.map krow ≠ [] := by simpa using hn
  obtain ⟨w', s1, e1, g1, l1, -, f1⟩ := gw_app (lo := σ.length + 2) (σ := σ ++ [.row [.int .i64 x.kind, w, .int .i64 x.seen, .int .i64 x.missed] 32 0 0, .row [.int .i64 0, .nils, .int .i64 0, .int .i64 0] 32 0 0]) (m := 3) (e := 41) (bytes := 40) (y := w) (ys := x.sites.map krow) gw_nil (by simp) (hw _) (by omega) (by simp) (krows_len _) (by simp; omega)
  rw [List.nil_append] at g1
  have hw1 := gw_cell g1
  have hc1 : Cl (σ ++ [.row [.int .i64 x.kind, w, .int .i64 x.seen, .int .i64 x.missed] 32 0 0, .row [.int .i64 0, .nils, .int .i64 0, .int .i64 0] 32 0 0]) := by
    have := cl_push (ob := .row [.int .i64 x.kind, w, .int .i64 x.seen, .int .i64 x.missed] 32 0 0) hc fun i hi => by
      simp only [Ob.refs, refsL, V.refs, List.nil_append, List.append_nil] at hi
      exact Nat.lt_succ_of_lt (hwr i hi)
    have := cl_push (ob := .row [.int .i64 0, .nils, .int .i64 0, .int .i64 0] 32 0 0) this (by simp [Ob.refs, refsL, V.refs])
    simpa using this
  have hc2 : Cl s1 := gw_app_cl (gw_nil (lo := σ.length + 2)) (hw _) e1 rfl (refsL_row (rows_all (krows_row _))) hc1
  have hk : ∃ J : St, s1 = σ ++ [.row [.int .i64 x.kind, w, .int .i64 x.seen, .int .i64 x.missed] 32 0 0, .row [.int .i64 0, .nils, .int .i64 0, .int .i64 0] 32 0 0] ++ J := by
    exact pre_ex fun j hj => f1 j (by simpa using hj)
  obtain ⟨J, rfl⟩ := hk
  have hS : ∀ a b : Ob, ((σ ++ [Ob.row [.int .i64 x.kind, w, .int .i64 x.seen, .int .i64 x.missed] 32 0 0, Ob.row [.int .i64 0, .nils, .int .i64 0, .int .i64 0] 32 0 0] ++ J).set σ.length a).set (σ.length + 1) b = σ ++ (a :: b :: J) := fun a b => by
    rw [List.append_assoc]
    simp [List.set_append]
  have g2 : GW (σ ++ (.row [.int .i64 x.kind, w', .int .i64 x.seen, .int .i64 x.missed] 32 0 0 :: .row [.int .i64 x.kind, w', .int .i64 x.seen, .int .i64 x.missed] 32 0 0 :: J)) 3 41 (σ.length + 2) w' (x.sites.map krow) := by
    rw [← hS]
    exact gw_set (gw_set g1 (by omega)) (by omega)
  have c2 : Cl (σ ++ (.row [.int .i64 x.kind, w', .int .i64 x.seen, .int .i64 x.missed] 32 0 0 :: .row [.int .i64 x.kind, w', .int .i64 x.seen, .int .i64 x.missed] 32 0 0 :: J)) := by
    rw [← hS]
    refine cl_set (cl_set hc2 fun i hi => ?_) fun i hi => ?_
    · simp only [Ob.refs, refsL, V.refs, List.nil_append, List.append_nil] at hi
      exact gw_refs g1 i hi
    · rw [List.length_set]
      simp only [Ob.refs, refsL, V.refs, List.nil_append, List.append_nil] at hi
      exact gw_refs g1 i hi
  refine ⟨w', _, ThP_all T62 rfl ?_ (fun i hi => ?_) ?_ (by simp) c2, c2, gw_lo g2 (by omega)⟩
  · simp only [List.append_assoc, List.cons_append, List.nil_append] at e1
    simp only [go_sem, Nat.reduceEqDiff, reduceIte, Nat.reduceAdd, Nat.reduceMul, Nat.reduceLeDiff, Int.reduceLT, Int.reduceLE, Int.reduceToNat, Int.reduceAdd, Int.reduceNeg, Int.reduceEq, cells1 hwc, hwc, e1, cells1 hw1, hw1]
    exact ⟨res4 (get_app _ _ 1) rfl, rfl⟩
  · simp only [V.refs, refsL, List.nil_append, List.append_nil] at hi
    exact gw_refs g2 i hi
  · simp only [okRes, okRes1, List.all_cons, List.all_nil, Bool.and_true, hw1]
    rfl
end Go.Proofs.YticpkkjnajmpoaaGreatDoor.KM
