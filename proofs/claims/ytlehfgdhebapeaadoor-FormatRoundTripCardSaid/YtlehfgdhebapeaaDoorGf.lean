/- Walks: the program's texts of expressions and heads of statements. -/
import Derived.Test.YtlehfgdhebapeaaDoorGe
import Derived.Test.YtlehfgdhebapeaaDoorGc
set_option linter.all false
namespace Go.Proofs.YtlehfgdhebapeaaDoor.KM
open Go
theorem wb_str {s0 s : St} {b : Nat} {l : List UInt8} (h : WB s0 s b l) : ∃ s', strS 65 5 [.ptr b 0 0] s = some (.str l, s') := by
  obtain ⟨⟨u, hu⟩, -⟩ := h
  exact bl_str hu
theorem fexpr_fn {x : Xp} (h : Cn x) (hl : x.txt.length ≤ 10000000000000) : Fn TT PT 16 [.agg x.row] (.str x.txt) := by
  have hset := xset x
  refine Fn_go T16 rfl ?_
  have w0 : WB [.row x.row 40 0 0, .row [.nilp, .nils] 65 0 0] [.row x.row 40 0 0, .row [.nilp, .nils] 65 0 0] 1 [] := by
    refine wb_start (u := .nils) ⟨.nilp, rfl, .inl rfl, gw_nil⟩ ?_
    exact cl_push (cl_row (s := []) (fun _ h => by cases h) (by rw [xrow_def]; simp only [go_sem])) (by simp [Ob.refs, refsL, V.refs])
  obtain ⟨s1, q1, v1⟩ := wexpr_th h _ 1 [] w0 (by simpa using hl)
  obtain ⟨s2, hs2⟩ := wb_str v1
  rw [List.nil_append] at hs2
  rw [xrow_def] at q1 hset ⊢
  simp only [go_sem, Nat.reduceEqDiff, reduceIte, Nat.reduceAdd, Nat.reduceMul, Nat.reduceLeDiff, Int.reduceLT, Int.reduceLE, Int.reduceToNat, Int.reduceAdd, Int.reduceNeg, Int.reduceEq]
  refine wx_th q1 ?_
  simp only [go_sem, Nat.reduceEqDiff, reduceIte, Nat.reduceAdd, Nat.reduceMul, Nat.reduceLeDiff, Int.reduceLT, Int.reduceLE, Int.reduceToNat, Int.reduceAdd, Int.reduceNeg, Int.reduceEq]
  refine wx_call (.spec T27 rfl rfl hs2) ?_
  simp only [go_sem, Nat.reduceEqDiff, reduceIte, Nat.reduceAdd, Nat.reduceMul, Nat.reduceLeDiff, Int.reduceLT, Int.reduceLE, Int.reduceToNat, Int.reduceAdd, Int.reduceNeg, Int.reduceEq]
  exact fr_set rfl
end Go.Proofs.YtlehfgdhebapeaaDoor.KM
