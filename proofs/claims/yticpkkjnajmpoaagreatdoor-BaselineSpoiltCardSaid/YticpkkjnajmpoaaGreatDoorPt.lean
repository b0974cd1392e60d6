/- Walks: the reference's Update; lists and baselines that are the same. -/
import Derived.Test.YticpkkjnajmpoaaGreatDoorPs
set_option linter.all false
namespace Go.Proofs.YticpkkjnajmpoaaGreatDoor.KM
open Go
theorem ecmp_self (x : Ent) : ecmp x x = 0 := (lin_p.zero x.ks x.ks).2 rfl
theorem sameE_fn (z z' : Bool) (t t' : Nat) (l : List Ent) (ho : okE l) (hl : l.length ≤ 1000000) : Fn TT PT 54 [SL z t (l.map Ent.row), SL z' t' (l.map Ent.row)] (.bool true) := by
  refine Fn_go T54 rfl ?_
  simp only [go_sem, Nat.reduceEqDiff, reduceIte, Nat.reduceAdd, Nat.reduceMul, Nat.reduceLeDiff, Int.reduceLT, Int.reduceLE, Int.reduceToNat, Int.reduceAdd, Int.reduceNeg, Int.reduceEq, List.length_map, bne_self_eq_false]
  refine loop_w (fun i => l.length - i) (fun i : Nat => [(0, SL z t (l.map Ent.row)), (1, SL z' t' (l.map Ent.row)), (12, .int .i64 l.length), (13, .int .i64 i)]) (fun _ => []) (fun i => i ≤ l.length) ?_ 0 (by omega)
  rintro i hi ih
  refine w_rep (by delta lp54_0; exact rfl) ?_
  rcases Nat.lt_or_ge i l.length with h | h
  · obtain ⟨x, hx, -, hm⟩ := at_some h
    have hc := cent_fn x x (ho x hm) (ho x hm)
    rw [ecmp_self] at hc
    simp only [ent_def] at hc
    simp only [go_sem, Nat.reduceEqDiff, reduceIte, Nat.reduceAdd, Nat.reduceMul, Nat.reduceLeDiff, Int.reduceLT, Int.reduceLE, Int.reduceToNat, Int.reduceAdd, Int.reduceNeg, Int.reduceEq, lt_t h]
    refine w_drw (by kernel_rfl) ?_
    simp only [go_sem, Nat.reduceEqDiff, reduceIte, Nat.reduceAdd, Nat.reduceMul, Nat.reduceLeDiff, Int.reduceLT, Int.reduceLE, Int.reduceToNat, Int.reduceAdd, Int.reduceNeg, Int.reduceEq, List.getElem?_map, hx]
    refine wgx_fn hc (by simp only [go_sem]) ?_
    simp only [go_sem, Nat.reduceEqDiff, reduceIte, Nat.reduceAdd, Nat.reduceMul, Nat.reduceLeDiff, Int.reduceLT, Int.reduceLE, Int.reduceToNat, Int.reduceAdd, Int.reduceNeg, Int.reduceEq, bne_self_eq_false, List.getElem?_map, hx, inc64 (show i < 9223372036854775807 by omega)]
    exact W_keep (ih (i + 1) (by omega) (by omega)) rfl
  · simp only [go_sem, Nat.reduceEqDiff, reduceIte, Nat.reduceAdd, Nat.reduceMul, Nat.reduceLeDiff, Int.reduceLT, Int.reduceLE, Int.reduceToNat, Int.reduceAdd, Int.reduceNeg, Int.reduceEq, lt_f h]
    exact fr_set rfl
theorem sameB_fn (z z' : Bool) (t t' : Nat) (n : Int) (l : List Ent) (ho : okE l) (hl : l.length ≤ 1000000) : Fn TT PT 32 [.agg [.int .i64 n, SL z t (l.map Ent.row)], .agg [.int .i64 n, SL z' t' (l.map Ent.row)]] (.bool true) := by
  have hs := sameE_fn z z' t t' l ho hl
  refine Fn_go T32 rfl ?_
  simp only [go_sem, Nat.reduceEqDiff, reduceIte, Nat.reduceAdd, Nat.reduceMul, Nat.reduceLeDiff, Int.reduceLT, Int.reduceLE, Int.reduceToNat, Int.reduceAdd, Int.reduceNeg, Int.reduceEq, beq_self_eq_true]
  refine wx_fn hs (by simp only [go_sem]) ?_
  simp only [go_sem, Nat.reduceEqDiff, reduceIte, Nat.reduceAdd, Nat.reduceMul, Nat.reduceLeDiff, Int.reduceLT, Int.reduceLE, Int.reduceToNat, Int.reduceAdd, Int.reduceNeg, Int.reduceEq]
  exact fr_set rfl
theorem fit_fn (z : Bool) (t : Nat) (l : List Ent) (ho : okE l) : Fn TT PT 59 [SL z t (l.map Ent.row)] (.bool (validB 1 l)) := by
  have hs := rvalid_fn z t 1 l ho
  refine Fn_go T59 rfl ?_
  simp only [go_sem, Nat.reduceEqDiff, reduceIte, Nat.reduceAdd, Nat.reduceMul, Nat.reduceLeDiff, Int.reduceLT, Int.reduceLE, Int.reduceToNat, Int.reduceAdd, Int.reduceNeg, Int.reduceEq]
  refine wx_fn hs (by simp only [go_sem]) ?_
  simp only [go_sem, Nat.reduceEqDiff, reduceIte, Nat.reduceAdd, Nat.reduceMul, Nat.reduceLeDiff, Int.reduceLT, Int.reduceLE, Int.reduceToNat, Int.reduceAdd, Int.reduceNeg, Int.reduceEq]
  exact fr_set rfl
/-- a list of entries: in an object of its own, or settled -/
def LW (σ : St) (lo : Nat) (u : V) (l : List Ent) : Prop := GW σ 4 32 lo u (l.map Ent.row) ∨ u = SL true 0 (l.map Ent.row)
theorem lw_push {σ J : St} {lo : Nat} {u : V} {l : List Ent} (h : LW σ lo u l) : LW (σ ++ J) lo u l := h.imp gw_push id
theorem lw_set {σ : St} {j lo : Nat} {x : Ob} {u : V} {l : List Ent} (h : LW σ lo u l) (hj : j < lo) : LW (σ.set j x) lo u l := h.imp (fun h => gw_set h hj) id
theorem lw_oc {σ : St} {lo : Nat} {u : V} {l : List Ent} (h : LW σ lo u l) : OC σ u (SL true 0 (l.map Ent.row)) := by
  rcases h with h | rfl
  · exact gw_oc h (by omega) (erows_len l) (erows_row l)
  · exact oc_row (sl_row ..)
theorem lw_len {σ : St} {lo : Nat} {u : V} {l : List Ent} (h : LW σ lo u l) : lenV u = some (.int .i64 (l.length : Int)) := by
  rcases h with h | rfl
  · have := gw_len h
    rwa [List.length_map] at this
  · rw [sl_len, List.length_map]
theorem lw_cell {σ : St} {lo : Nat} {u : V} {l : List Ent} (h : LW σ lo u l) : u.cellB = true := by
  rcases h with h | rfl
  · exact gw_cell h
  · exact sl_cell ..
theorem lw_after {σ : St} {lo : Nat} {u : V} {l : List Ent} (h : LW σ lo u l) {args : List V} {v : V} (ha : refsL args = u.refs) : ∃ σ', after σ args v = σ' ∧ σ'.length = σ.length ∧ ∀ j, j < lo → σ'[j]? = σ[j]? := by
  rcases h with h | rfl
  · exact after_gw h (erows_row l) ha
  · rw [rowB_refs (sl_row ..)] at ha
    exact ⟨σ, after_nil ha v, rfl, fun _ _ => rfl⟩
theorem lw_fr {σ : St} {lo : Nat} {u w : V} {l : List Ent} {n : Int} (h : LW σ lo u l) (hw : w.rowB = true) : FR (.tup [.agg [.int .i64 n, u], w]) σ (.tup [.agg [.int .i64 n, SL true 0 (l.map Ent.row)], w]) := by
  rcases h with h | rfl
  · exact fr_tup_gw (pre := [.int .i64 n]) (post := []) h (by omega) (erows_len _) (erows_row _) rfl rfl hw
  · refine fr_tup ?_
    have : setC w = true := by cases w <;> simp [V.rowB] at hw <;> rfl
    show (setC (.agg [.int .i64 n, SL true 0 (l.map Ent.row)]) && (setC w && true)) = true
    rw [this, show setC (.agg [.int .i64 n, SL true 0 (l.map Ent.row)]) = true from by
      show ((V.rowB (.int .i64 n)) && ((SL true 0 (l.map Ent.row)).rowB && true)) = true
      rw [sl_row]
      rfl]
    rfl
end Go.Proofs.YticpkkjnajmpoaaGreatDoor.KM
