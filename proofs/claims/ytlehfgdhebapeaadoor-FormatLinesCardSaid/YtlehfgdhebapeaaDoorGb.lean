/- Walks: the reference's texts of expressions. -/
import Derived.Test.YtlehfgdhebapeaaDoorGa
import Derived.Test.YtlehfgdhebapeaaDoorNu
set_option linter.all false
namespace Go.Proofs.YtlehfgdhebapeaaDoor.KM
open Go
theorem cn_op {x : Xp} (h : Cn x) : 1 ≤ x.op ∧ x.op ≤ 18 := by
  cases h with
  | num _ => exact ⟨by simp, by simp⟩
  | name => exact ⟨by simp, by simp⟩
  | idx _ => exact ⟨by simp, by simp⟩
  | un h _ => simp only; omega
  | bin h _ _ => simp only; omega
theorem op_nat {op : Int} (h : 1 ≤ op ∧ op ≤ 18) : ∃ i : Nat, i < 18 ∧ op = (i : Int) + 1 := ⟨(op - 1).toNat, by omega, by omega⟩
theorem sign_runs : ((List.range 18).all fun i => match (bodyF (runD TT PT 300) af89 [.int .i64 ((i : Int) + 1)] []).bind fun p => back p.2 p.1 with
    | some (.tup [.str s, .int .i64 n]) => s == sgE ((i : Int) + 1) && n == lvE ((i : Int) + 1)
    | _ => false) = true := by kernel_rfl
theorem sign_fn {op : Int} (h : 1 ≤ op ∧ op ≤ 18) : Fn TT PT 89 [.int .i64 op] (.tup [.str (sgE op), .int .i64 (lvE op)]) := by
  obtain ⟨i, hi, rfl⟩ := op_nat h
  have hr := List.all_eq_true.1 sign_runs i (List.mem_range.2 hi)
  split at hr
  · rename_i s n hv
    simp only [Bool.and_eq_true, beq_iff_eq] at hr
    rw [← hr.1, ← hr.2]
    exact run_fnD hSt T89 rfl rfl hv
  · cases hr
theorem op_runs : ((List.range 18).all fun i => match (bodyF (runD TT PT 300) af64 [.int .i64 ((i : Int) + 1)] []).bind fun p => back p.2 p.1 with
    | some (.agg [.str s, .int .i64 n]) => s == sgE ((i : Int) + 1) && n == lvE ((i : Int) + 1)
    | _ => false) = true := by kernel_rfl
theorem op_fn {op : Int} (h : 1 ≤ op ∧ op ≤ 18) : Fn TT PT 64 [.int .i64 op] (.agg [.str (sgE op), .int .i64 (lvE op)]) := by
  obtain ⟨i, hi, rfl⟩ := op_nat h
  have hr := List.all_eq_true.1 op_runs i (List.mem_range.2 hi)
  split at hr
  · rename_i s n hv
    simp only [Bool.and_eq_true, beq_iff_eq] at hr
    rw [← hr.1, ← hr.2]
    exact run_fnD hSt T64 rfl rfl hv
  · cases hr
theorem sg_runs : ((List.range 18).all fun i => decide ((sgE ((i : Int) + 1)).length ≤ 2 ∧ 1 ≤ lvE ((i : Int) + 1) ∧ lvE ((i : Int) + 1) ≤ 7)) = true := by decide
theorem sg_len {op : Int} (h : 1 ≤ op ∧ op ≤ 18) : (sgE op).length ≤ 2 ∧ 1 ≤ lvE op ∧ lvE op ≤ 7 := by
  obtain ⟨i, hi, rfl⟩ := op_nat h
  exact of_decide_eq_true (List.all_eq_true.1 sg_runs i (List.mem_range.2 hi))
theorem xset (x : Xp) : setC (.agg x.row) = true := by
  rw [xrow_def]
  simp only [go_sem]
theorem bin_add {a b c : List UInt8} (h : a.length + b.length ≤ 9223372036854775807) (hc : a ++ b = c) : binS .add a b = some (.str c) := by
  simp only [binS]
  rw [if_pos h, hc]
theorem put_len (o : Int × List UInt8) (level : Int) : o.2.length ≤ (putE o level).length ∧ (putE o level).length ≤ o.2.length + 2 := by
  unfold putE
  split
  · simp only [List.length_cons, List.length_append, List.length_nil]; omega
  · omega
theorem put_fn {x : Xp} (he : Fn TT PT 61 [.agg x.row] (.str x.txt)) (ho : 1 ≤ x.op ∧ x.op ≤ 18) (hl : x.txt.length ≤ 1000000000000000) (level : Int) : Fn TT PT 90 [.agg x.row, .int .i64 level] (.str (putE (x.op, x.txt) level)) := by
  have hs := sign_fn ho
  have hset := xset x
  rw [xrow_def] at he hset ⊢
  refine Fn_go T90 rfl ?_
  have a1 : binS .add [40] x.txt = some (.str (40 :: x.txt)) := bin_add (by simp; omega) rfl
  have a2 : binS .add (40 :: x.txt) [41] = some (.str (40 :: (x.txt ++ [41]))) := bin_add (by simp; omega) (by simp)
  unfold putE
  by_cases h : lvE x.op < level
  · rw [if_pos h]
    have f : (lvE x.op < level) = True := eq_true h
    simp only [go_sem]
    refine wx_fn hs (by simp only [go_sem]) ?_
    simp only [go_sem, f]
    refine wx_fn he (by simp only [go_sem]) ?_
    simp only [go_sem, ↓a1, ↓a2]
    exact fr_set rfl
  · rw [if_neg h]
    have f : (lvE x.op < level) = False := eq_false h
    simp only [go_sem]
    refine wx_fn hs (by simp only [go_sem]) ?_
    simp only [go_sem, f]
    refine wx_fn he (by simp only [go_sem]) ?_
    simp only [go_sem]
    exact fr_set rfl
set_option maxHeartbeats 4000000 in
theorem rexpr_fn {x : Xp} (h : Cn x) : x.txt.length ≤ 1000000000000000 → Fn TT PT 61 [.agg x.row] (.str x.txt) := by
  induction h with
  | @num n nm z t hn =>
    intro hl
    have hs := sign_fn (op := 1) (by omega)
    rw [xrow_def, xtxt_def]
    simp only [List.map_nil, combE, if_true]
    refine Fn_go T61 rfl ?_
    have hf : fmtS [.int .i64 n, .int .i64 10] = some (.str (itoaE n)) := by unfold fmtS; exact if_pos hn
    simp only [go_sem]
    refine wx_fn hs (by simp only [go_sem]) ?_
    simp only [go_sem, Int.reduceBEq]
    refine wx_pr P51 (by simp only [go_sem]) hf ?_
    simp only [go_sem]
    exact fr_set rfl
  | @name n nm z t =>
    intro hl
    have hs := sign_fn (op := 2) (by omega)
    rw [xrow_def, xtxt_def]
    simp only [List.map_nil, combE]
    refine Fn_go T61 rfl ?_
    simp only [go_sem]
    refine wx_fn hs (by simp only [go_sem]) ?_
    simp only [go_sem, Int.reduceBEq]
    exact fr_set rfl
  | @idx n nm z t a ha ih =>
    intro hl
    have hs := sign_fn (op := 3) (by omega)
    rw [xrow_def]
    rw [xtxt_def] at hl ⊢
    simp only [List.map_cons, List.map_nil, combE] at hl ⊢
    have hl : nm.length + a.txt.length + 2 ≤ 1000000000000000 := by simp at hl; omega
    have hi := ih (by omega)
    rw [xrow_def a] at hi ⊢
    refine Fn_go T61 rfl ?_
    simp only [go_sem]
    refine wx_fn hs (by simp only [go_sem]) ?_
    simp only [go_sem, Int.reduceBEq]
    have a1 : binS .add nm [91] = some (.str (nm ++ [91])) := bin_add (by simp; omega) rfl
    have a2 : binS .add (nm ++ [91]) a.txt = some (.str (nm ++ 91 :: a.txt)) := bin_add (by simp; omega) (by simp)
    have a3 : binS .add (nm ++ 91 :: a.txt) [93] = some (.str (nm ++ 91 :: (a.txt ++ [93]))) := bin_add (by simp; omega) (by simp)
    refine w_drw (by kernel_rfl) ?_
    simp only [go_sem, ↓a1]
    refine wgx_fn hi (by simp only [go_sem]) ?_
    simp only [go_sem, ↓a2, ↓a3]
    exact fr_set rfl
  | @un op n nm z t a hop ha ih =>
    intro hl
    have ho : 1 ≤ op ∧ op ≤ 18 := by omega
    have hs := sign_fn ho
    have hlv : lvE op = 6 := by rcases hop with rfl | rfl <;> rfl
    rw [hlv] at hs
    obtain ⟨s1, -, -⟩ := sg_len ho
    rw [xrow_def]
    rw [xtxt_def] at hl ⊢
    have e1 : combE op n nm [(a.op, a.txt)] = sgE op ++ putE (a.op, a.txt) 6 := by
      unfold combE
      rw [if_neg (by omega), if_neg (by omega)]
      simp only
      rw [if_neg (by omega)]
    simp only [List.map_cons, List.map_nil, e1, List.length_append] at hl ⊢
    obtain ⟨p1, p2⟩ := put_len (a.op, a.txt) 6
    have hi := put_fn (ih (by simp only at p1; omega)) (cn_op ha) (by simp only at p1; omega) 6
    rw [xrow_def a] at hi ⊢
    refine Fn_go T61 rfl ?_
    have b1 : (op == 1) = false := by simp; omega
    have b2 : (op == 2) = false := by simp; omega
    have b3 : (op == 3) = false := by simp; omega
    simp only [go_sem]
    refine wx_fn hs (by simp only [go_sem]) ?_
    simp only [go_sem, Int.reduceBEq, b1, b2, b3]
    refine wx_fn hi (by simp only [go_sem]) ?_
    have a1 : binS .add (sgE op) (putE (a.op, a.txt) 6) = some (.str (sgE op ++ putE (a.op, a.txt) 6)) := bin_add (by omega) rfl
    simp only [go_sem, ↓a1]
    exact fr_set rfl
  | @bin op n nm z t a b hop ha hb iha ihb =>
    intro hl
    have ho : 1 ≤ op ∧ op ≤ 18 := by omega
    have hs := sign_fn ho
    obtain ⟨s1, s2, s3⟩ := sg_len ho
    have hlv : lvE op < 6 := by
      obtain ⟨i, hi, rfl⟩ := op_nat ho
      have : ((List.range 18).all fun i => decide (5 ≤ i → lvE ((i : Int) + 1) < 6)) = true := by decide
      exact of_decide_eq_true (List.all_eq_true.1 this i (List.mem_range.2 hi)) (by omega)
    rw [xrow_def]
    rw [xtxt_def] at hl ⊢
    have e1 : combE op n nm [(a.op, a.txt), (b.op, b.txt)] = putE (a.op, a.txt) (leftE op) ++ 32 :: (sgE op ++ 32 :: putE (b.op, b.txt) (lvE op + 1)) := by
      unfold combE
      rw [if_neg (by omega), if_neg (by omega)]
    simp only [List.map_cons, List.map_nil, e1, List.length_append, List.length_cons] at hl ⊢
    obtain ⟨p1, p2⟩ := put_len (a.op, a.txt) (leftE op)
    obtain ⟨q1, q2⟩ := put_len (b.op, b.txt) (lvE op + 1)
    simp only at p1 q1
    have hi := put_fn (iha (by omega)) (cn_op ha) (by omega) (leftE op)
    have hj := put_fn (ihb (by omega)) (cn_op hb) (by omega) (lvE op + 1)
    rw [xrow_def a] at hi ⊢
    rw [xrow_def b] at hj ⊢
    refine Fn_go T61 rfl ?_
    have b1 : (op == 1) = false := by simp; omega
    have b2 : (op == 2) = false := by simp; omega
    have b3 : (op == 3) = false := by simp; omega
    have b6 : (lvE op == 6) = false := by simp; omega
    have f6 : (lvE op < 6) = True := eq_true hlv
    have w1 : IntKind.i64.wrap (lvE op + 1) = lvE op + 1 := wrap64 (by omega)
    generalize putE (a.op, a.txt) (leftE op) = pa at hl hi p1 p2 ⊢
    generalize putE (b.op, b.txt) (lvE op + 1) = pb at hl hj q1 q2 ⊢
    have a1 : binS .add pa [32] = some (.str (pa ++ [32])) := bin_add (by simp; omega) rfl
    have a2 : binS .add (pa ++ [32]) (sgE op) = some (.str (pa ++ 32 :: sgE op)) := bin_add (by simp; omega) (by simp)
    have a3 : binS .add (pa ++ 32 :: sgE op) [32] = some (.str (pa ++ 32 :: (sgE op ++ [32]))) := bin_add (by simp; omega) (by simp)
    have a4 : binS .add (pa ++ 32 :: (sgE op ++ [32])) pb = some (.str (pa ++ 32 :: (sgE op ++ 32 :: pb))) := bin_add (by simp; omega) (by simp)
    cases h3 : (lvE op == 3)
    all_goals
      have hle : leftE op = (if (lvE op == 3) = true then 4 else lvE op) := by unfold leftE; simp
      rw [h3] at hle
      simp only [if_true, if_false, Bool.false_eq_true] at hle
      rw [hle] at hi
      simp only [go_sem]
      refine wx_fn hs (by simp only [go_sem]) ?_
      simp only [go_sem, Int.reduceBEq, b1, b2, b3, b6, f6, h3]
      refine w_drw (by kernel_rfl) ?_
      simp only [go_sem]
      refine wgx_fn hi (by simp only [go_sem]) ?_
      simp only [go_sem, ↓a1, ↓a2, ↓a3, w1]
      refine wgx_fn hj (by simp only [go_sem]) ?_
      simp only [go_sem, ↓a4]
      exact fr_set rfl
end Go.Proofs.YtlehfgdhebapeaaDoor.KM
