/- Walks: the law that the text of an expression is parsed as that expression. -/
import Derived.Test.YtlehfgdhebapeaaDoorLn
import Derived.Test.YtlehfgdhebapeaaDoorGf
set_option linter.all false
namespace Go.Proofs.YtlehfgdhebapeaaDoor.KM
open Go
theorem lawRoundTrip_fn (z : Bool) (t : Nat) (l : List UInt8) (hl : l.length ≤ 9223372036854775807) : Fn TT PT 6 [SL z t (byteRows l)] (.bool true) := by
  refine Fn_go T6 rfl ?_
  have hbl : (byteRows l).length = l.length := by simp [byteRows]
  by_cases h300 : 300 < l.length
  · have f1 : ((300 : Int) < (l.length : Int)) = True := eq_true (by omega)
    simp only [go_sem, Nat.reduceEqDiff, reduceIte, Nat.reduceAdd, Nat.reduceMul, Nat.reduceLeDiff, Int.reduceLT, Int.reduceLE, Int.reduceToNat, Int.reduceAdd, Int.reduceNeg, Int.reduceEq, hbl, gt_iff_lt, f1]
    exact fr_eq rfl rfl
  · have f1 : ((300 : Int) < (l.length : Int)) = False := eq_false (by omega)
    obtain ⟨_, hm, x, rfl, hx, hxl⟩ := mexpr_fn z t l hl
    have hE5 : EB 5 = 1014 := rfl
    have hf := fexpr_fn (she_cn hx) (by omega)
    have hxs := xset x
    have hr := xrow_def x
    obtain ⟨y, hy, hxy⟩ := pexpr_text dig_rt num_rt hx (by omega)
    obtain ⟨v, hpe, hE⟩ := pexpr_fn x.txt
    unfold ExR at hE
    rw [hy] at hE
    simp only at hE
    subst hE
    have hys := xset y
    have hyr := xrow_def y
    have hsm := same_fn hx y
    rw [hr] at hm hf hxs hsm
    rw [hyr] at hpe hys hsm
    rw [hxy] at hsm
    have f2 : ((4096 : Int) < (x.txt.length : Int)) = False := eq_false (by omega)
    simp only [go_sem, Nat.reduceEqDiff, reduceIte, Nat.reduceAdd, Nat.reduceMul, Nat.reduceLeDiff, Int.reduceLT, Int.reduceLE, Int.reduceToNat, Int.reduceAdd, Int.reduceNeg, Int.reduceEq, hbl, gt_iff_lt, f1]
    refine wx_fn hm (by simp only [go_sem]) ?_
    simp only [go_sem, Nat.reduceEqDiff, reduceIte, Nat.reduceAdd, Nat.reduceMul, Nat.reduceLeDiff, Int.reduceLT, Int.reduceLE, Int.reduceToNat, Int.reduceAdd, Int.reduceNeg, Int.reduceEq]
    refine wx_fn hf (by simp only [go_sem]) ?_
    simp only [go_sem, Nat.reduceEqDiff, reduceIte, Nat.reduceAdd, Nat.reduceMul, Nat.reduceLeDiff, Int.reduceLT, Int.reduceLE, Int.reduceToNat, Int.reduceAdd, Int.reduceNeg, Int.reduceEq, gt_iff_lt, f2]
    refine wx_fn hpe (by simp only [go_sem]) ?_
    simp only [go_sem, Nat.reduceEqDiff, reduceIte, Nat.reduceAdd, Nat.reduceMul, Nat.reduceLeDiff, Int.reduceLT, Int.reduceLE, Int.reduceToNat, Int.reduceAdd, Int.reduceNeg, Int.reduceEq, Int.reduceBEq]
    refine wx_fn hsm (by simp only [go_sem]) ?_
    simp only [go_sem, Nat.reduceEqDiff, reduceIte, Nat.reduceAdd, Nat.reduceMul, Nat.reduceLeDiff, Int.reduceLT, Int.reduceLE, Int.reduceToNat, Int.reduceAdd, Int.reduceNeg, Int.reduceEq]
    exact fr_eq rfl rfl
end Go.Proofs.YtlehfgdhebapeaaDoor.KM
