/- Walks: the reference's Update; lists and baselines that are the same. -/
import Derived.Test.YtlehfgdhebapeaaGreatDoorPs
set_option linter.all false
namespace Go.Proofs.YtlehfgdhebapeaaGreatDoor.KM
open Go
theorem ecmp_self (x : Ent) : ecmp x x = 0 := (lin_p.zero x.ks x.ks).2 rfl
theorem sameE_fn (z z' : Bool) (t t' : Nat) (l : List Ent) (ho : okE l) (hl : l.length ≤ 1000000) : Fn TT PT 67 [SL z t (l.map Ent.row), SL z' t' (l.map Ent.row)] (.bool true) := by
  refine Fn_go T67 rfl ?_
  simp only [go_sem, Nat.reduceEqDiff, reduceIte, Nat.reduceAdd, Nat.reduceMul, Nat.reduceLeDiff, Int.reduceLT, Int.reduceLE, Int.reduceToNat, Int.reduceAdd, Int.reduceNeg, Int.reduceEq, List.length_map, bne_self_eq_false]
  refine loop_w (fun i => l.length - i) (fun i : Nat => [(0, SL z t (l.map Ent.row)), (1, SL z' t' (l.map Ent.row)), (12, .int .i64 l.length), (13, .int .i64 i)]) (fun _ => []) (fun i => i ≤ l.length) ?_ 0 (by omega)
  rintro i hi ih
  refine w_rep (by delta lp67_0; exact rfl) ?_
  rcases Nat.lt_or_ge i l.length with h | h
  · obtain ⟨x, hx, -, hm⟩ := at_some h
    have hc := cent_fn x x (ho x hm) (ho x hm)
    rw [ecmp_self] at hc
    simp only [ent_def] at hc
    simp only [go_sem, Nat.reduceEqDiff, reduceIte, Nat.reduceAdd, Nat.reduceMul, Nat.reduceLeDiff, Int.reduceLT, Int.reduceLE, Int.reduceToNat, Int.reduceAdd, Int.reduceNeg, Int.reduceEq, lt_t h]
    refine w_drw (by kernel_rfl) ?_
    simp only [go_sem, Nat.reduceEqDiff, reduceIte, Nat.reduceAdd, Nat.reduceMul, Nat.reduceLeDiff, Int.reduceLT, Int.reduceLE, Int.reduceToNat, Int.reduceAdd, Int.reduceNeg, Int.reduceEq, List.getElem?_map, hx]
    refine wgx_fn hc (by simp only [go_sem]) ?_
    simp only [go_sem, Nat.reduceEqDiff, reduceIte, Nat.reduceAdd, Nat.reduceMul, Nat.reduceLeDiff, Int.reduceLT, Int.reduceLE, Int.reduceToNat, Int.reduceAdd, Int.reduceNeg, Int.reduceEq, bne_self_eq_false, List.getElem?_map, hx, inc64 (show i < 9223372036854775807 by omega)]
    exact W_keep (ih (i + 1) (by omega) (by omega)) rfl
  · simp only [go_sem, Nat.reduceEqDiff, reduceIte, Nat.reduceAdd, Nat.reduceMul, Nat.reduceLeDiff, Int.reduceLT, Int.reduceLE, Int.reduceToNat, Int.reduceAdd, Int.reduceNeg, Int.reduceEq, lt_f h]
    exact fr_set rfl
theorem sameB_fn (z z' : Bool) (t t' : Nat) (n : Int) (l : List Ent) (ho : okE l) (hl : l.length ≤ 1000000) : Fn TT PT 29 [.agg [.int .i64 n, SL z t (l.map Ent.row)], .agg [.int .i64 n, SL z' t' (l.map Ent.row)]] (.bool true) := by
  have hs := sameE_fn z z' t t' l ho hl
  refine Fn_go T29 rfl ?_
  simp only [go_sem, Nat.reduceEqDiff, reduceIte, Nat.reduceAdd, Nat.reduceMul, Nat.reduceLeDiff, Int.reduceLT, Int.reduceLE, Int.reduceToNat, Int.reduceAdd, Int.reduceNeg, Int.reduceEq, beq_self_eq_true]
  refine wx_fn hs (by simp only [go_sem]) ?_
  simp only [go_sem, Nat.reduceEqDiff, reduceIte, Nat.reduceAdd, Nat.reduceMul, Nat.reduceLeDiff, Int.reduceLT, Int.reduceLE, Int.reduceToNat, Int.reduceAdd, Int.reduceNeg, Int.reduceEq]
  exact fr_set rfl
end Go.Proofs.YtlehfgdhebapeaaGreatDoor.KM
