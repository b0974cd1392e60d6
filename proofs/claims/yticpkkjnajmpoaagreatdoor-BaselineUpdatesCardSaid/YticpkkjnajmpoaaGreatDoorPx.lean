/- Walks: the reference's Update, whole; the law BaselineFull. -/
import Derived.Test.YticpkkjnajmpoaaGreatDoorPu
set_option linter.all false
namespace Go.Proofs.YticpkkjnajmpoaaGreatDoor.KM
open Go
theorem upd1_okV {now : List Ent} {x y : Ent} (h : okV x) (hy : upd1 now x = some y) : okV y := by
  have hn := okV_num h
  rw [upd1_row] at hy
  split at hy
  · cases hy; exact okV_set h _ _ (by omega) (by omega) (by omega) (by omega)
  · split at hy
    · cases hy; exact okV_set h x.seen _ (by omega) (by omega) (by omega) (by omega)
    · cases hy
theorem rupdate_fn (z z' : Bool) (t t' : Nat) (n : Int) (b now : List Ent) (ho : okE b) (ho' : okE now) : Fn TT PT 31 [.agg [.int .i64 n, SL z t (b.map Ent.row)], SL z' t' (now.map Ent.row)] (.tup [baseV (updRes n b now).1 (updRes n b now).2.1, .int .i64 (updRes n b now).2.2]) := by
  have hv1 := rvalid_fn z t n b ho
  have hv2 := fit_fn z' t' now ho'
  refine Fn_go T31 rfl ?_
  unfold updRes baseV
  cases v1 : validB n b
  · rw [v1] at hv1
    simp only [go_sem, Nat.reduceEqDiff, reduceIte, Nat.reduceAdd, Nat.reduceMul, Nat.reduceLeDiff, Int.reduceLT, Int.reduceLE, Int.reduceToNat, Int.reduceAdd, Int.reduceNeg, Int.reduceEq]
    refine wx_fn hv1 (by simp only [go_sem]) ?_
    simp only [go_sem, Nat.reduceEqDiff, reduceIte, Nat.reduceAdd, Nat.reduceMul, Nat.reduceLeDiff, Int.reduceLT, Int.reduceLE, Int.reduceToNat, Int.reduceAdd, Int.reduceNeg, Int.reduceEq]
    exact fr_tup rfl
  rw [v1] at hv1
  cases v2 : validB 1 now
  · rw [v2] at hv2
    simp only [go_sem, Nat.reduceEqDiff, reduceIte, Nat.reduceAdd, Nat.reduceMul, Nat.reduceLeDiff, Int.reduceLT, Int.reduceLE, Int.reduceToNat, Int.reduceAdd, Int.reduceNeg, Int.reduceEq]
    refine wx_fn hv1 (by simp only [go_sem]) ?_
    simp only [go_sem, Nat.reduceEqDiff, reduceIte, Nat.reduceAdd, Nat.reduceMul, Nat.reduceLeDiff, Int.reduceLT, Int.reduceLE, Int.reduceToNat, Int.reduceAdd, Int.reduceNeg, Int.reduceEq]
    refine wx_fn hv2 (by simp only [go_sem]) ?_
    simp only [go_sem, Nat.reduceEqDiff, reduceIte, Nat.reduceAdd, Nat.reduceMul, Nat.reduceLeDiff, Int.reduceLT, Int.reduceLE, Int.reduceToNat, Int.reduceAdd, Int.reduceNeg, Int.reduceEq]
    exact fr_tup rfl
  rw [v2] at hv2
  rw [if_pos (show (true && true) = true from rfl)]
  obtain ⟨b1, b2, b3, b4, b5⟩ := valid_parts v1
  obtain ⟨c1, c2, c3, c4, c5⟩ := valid_parts v2
  have hw : IntKind.i64.wrap (n + 1) = n + 1 := wrap64 (by omega)
  have d3 : ∀ x ∈ b.filterMap (upd1 now), okV x := fun x hx => by
    obtain ⟨y, hy, h⟩ := List.mem_filterMap.1 hx
    exact upd1_okV (b3 y hy) h
  have d1 := List.length_filterMap_le (upd1 now) b
  have he : newL (b.filterMap (upd1 now)) now now.length = updL b now := by
    unfold newL
    rw [List.take_length]
    exact update_eq b2 c2
  simp only [go_sem, Nat.reduceEqDiff, reduceIte, Nat.reduceAdd, Nat.reduceMul, Nat.reduceLeDiff, Int.reduceLT, Int.reduceLE, Int.reduceToNat, Int.reduceAdd, Int.reduceNeg, Int.reduceEq]
  refine wx_fn hv1 (by simp only [go_sem]) ?_
  simp only [go_sem, Nat.reduceEqDiff, reduceIte, Nat.reduceAdd, Nat.reduceMul, Nat.reduceLeDiff, Int.reduceLT, Int.reduceLE, Int.reduceToNat, Int.reduceAdd, Int.reduceNeg, Int.reduceEq]
  refine wx_fn hv2 (by simp only [go_sem]) ?_
  simp only [go_sem, Nat.reduceEqDiff, reduceIte, Nat.reduceAdd, Nat.reduceMul, Nat.reduceLeDiff, Int.reduceLT, Int.reduceLE, Int.reduceToNat, Int.reduceAdd, Int.reduceNeg, Int.reduceEq, hw, List.length_map]
  refine rupd_loop1 (n + 1) _ _ z z' t t' b now b3 c3 b1 c1 _ _ fun s u h0 h1 h2 h3 hg => ?_
  simp only [go_sem, Nat.reduceEqDiff, reduceIte, Nat.reduceAdd, Nat.reduceMul, Nat.reduceLeDiff, Int.reduceLT, Int.reduceLE, Int.reduceToNat, Int.reduceAdd, Int.reduceNeg, Int.reduceEq, List.length_map]
  refine rupd_loop2 (n + 1) _ _ z' t' (b.filterMap (upd1 now)) now d3 c3 (by omega) c1 _ _ (fun s u h0 h1 h2 h3 hg => ?_) s u h0 h1 h2 h3 (.inl hg)
  rw [he] at hg
  have hlu := lw_len hg
  have huc := lw_cell hg
  have hst : ∀ X : Ob, (s.set 1 X)[1]? = some X := fun X => List.getElem?_set_self (by omega)
  have hst2 : ∀ X : Ob, (s.set 1 X)[2]? = s[2]? := fun X => List.getElem?_set_ne (by omega)
  cases hn : decide (1073741824 < n + 1)
  · cases hm : decide ((64 : Int) < ((updL b now).length : Int))
    · have hm' : ¬ (n = 1073741824 ∨ 64 < (updL b now).length) := by simp at hm hn; omega
      simp only [go_sem, Nat.reduceEqDiff, reduceIte, Nat.reduceAdd, Nat.reduceMul, Nat.reduceLeDiff, Int.reduceLT, Int.reduceLE, Int.reduceToNat, Int.reduceAdd, Int.reduceNeg, Int.reduceEq, h0, h1, h2, hn, hlu, hm, cells1 huc, huc, hst, hst2]
      rw [if_neg hm']
      exact lw_fr (lw_set (j := 1) hg (by omega)) rfl
    · have hm' : n = 1073741824 ∨ 64 < (updL b now).length := by simp at hm; omega
      simp only [go_sem, Nat.reduceEqDiff, reduceIte, Nat.reduceAdd, Nat.reduceMul, Nat.reduceLeDiff, Int.reduceLT, Int.reduceLE, Int.reduceToNat, Int.reduceAdd, Int.reduceNeg, Int.reduceEq, h0, h1, h2, hn, hlu, hm, hst, hst2]
      rw [if_pos hm']
      exact fr_tup rfl
  · have hm' : n = 1073741824 ∨ 64 < (updL b now).length := by simp at hn; omega
    simp only [go_sem, Nat.reduceEqDiff, reduceIte, Nat.reduceAdd, Nat.reduceMul, Nat.reduceLeDiff, Int.reduceLT, Int.reduceLE, Int.reduceToNat, Int.reduceAdd, Int.reduceNeg, Int.reduceEq, h0, h1, h2, hn, hst, hst2]
    rw [if_pos hm']
    exact fr_tup rfl
end Go.Proofs.YticpkkjnajmpoaaGreatDoor.KM
