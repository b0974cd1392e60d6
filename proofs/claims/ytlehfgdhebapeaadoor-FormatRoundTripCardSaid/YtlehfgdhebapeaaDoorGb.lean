/- Walks: the reference's texts of expressions. -/
import Derived.Test.YtlehfgdhebapeaaDoorGa
import Derived.Test.YtlehfgdhebapeaaDoorNu
set_option linter.all false
namespace Go.Proofs.YtlehfgdhebapeaaDoor.KM
open Go
theorem cn_op {x : Xp} (h : Cn x) : 1 ≤ x.op ∧ x.op ≤ 18 := by
  cases h with
  | num _ => exact ⟨by simp, by simp⟩
  | name => exact ⟨by simp, by simp⟩
  | idx _ => exact ⟨by simp, by simp⟩
  | un h _ => simp only; omega
  | bin h _ _ => simp only; omega
theorem op_nat {op : Int} (h : 1 ≤ op ∧ op ≤ 18) : ∃ i : Nat, i < 18 ∧ op = (i : Int) + 1 := ⟨(op - 1).toNat, by omega, by omega⟩
theorem op_runs : ((List.range 18).all fun i => match (bodyF (runD TT PT 300) af64 [.int .i64 ((i : Int) + 1)] []).bind fun p => back p.2 p.1 with
    | some (.agg [.str s, .int .i64 n]) => s == sgE ((i : Int) + 1) && n == lvE ((i : Int) + 1)
    | _ => false) = true := by kernel_rfl
theorem op_fn {op : Int} (h : 1 ≤ op ∧ op ≤ 18) : Fn TT PT 64 [.int .i64 op] (.agg [.str (sgE op), .int .i64 (lvE op)]) := by
  obtain ⟨i, hi, rfl⟩ := op_nat h
  have hr := List.all_eq_true.1 op_runs i (List.mem_range.2 hi)
  split at hr
  · rename_i s n hv
    simp only [Bool.and_eq_true, beq_iff_eq] at hr
    rw [← hr.1, ← hr.2]
    exact run_fnD hSt T64 rfl rfl hv
  · cases hr
theorem sg_runs : ((List.range 18).all fun i => decide ((sgE ((i : Int) + 1)).length ≤ 2 ∧ 1 ≤ lvE ((i : Int) + 1) ∧ lvE ((i : Int) + 1) ≤ 7)) = true := by decide
theorem sg_len {op : Int} (h : 1 ≤ op ∧ op ≤ 18) : (sgE op).length ≤ 2 ∧ 1 ≤ lvE op ∧ lvE op ≤ 7 := by
  obtain ⟨i, hi, rfl⟩ := op_nat h
  exact of_decide_eq_true (List.all_eq_true.1 sg_runs i (List.mem_range.2 hi))
theorem xset (x : Xp) : setC (.agg x.row) = true := by
  rw [xrow_def]
  simp only [go_sem]
theorem put_len (o : Int × List UInt8) (level : Int) : o.2.length ≤ (putE o level).length ∧ (putE o level).length ≤ o.2.length + 2 := by
  unfold putE
  split
  · simp only [List.length_cons, List.length_append, List.length_nil]; omega
  · omega
end Go.Proofs.YtlehfgdhebapeaaDoor.KM
