/- Walks: programs as the static rules see them. -/
import Derived.Test.YtlehfgdhebapeaaDoorIe
import Derived.Test.YtlehfgdhebapeaaDoorMj
set_option linter.all false
namespace Go.Proofs.YtlehfgdhebapeaaDoor.KM
open Go
/-- two numbers come back -/
def Two (v : V) : Prop := ∃ e ln : Int, v = .tup [.int .i64 e, .int .i64 ln]
set_option maxHeartbeats 4000000 in
theorem decls4_fn (z : Bool) (t : Nat) (l : List Dp) (hl : l.length ≤ 1000000000) : ∃ v, Fn TT PT 57 [SL z t (l.map Dp.row)] v ∧ Two v := by
  have n1 : (l.map Dp.row).length = l.length := List.length_map ..
  refine fn_rel T57 rfl ?_
  simp only [go_sem]
  refine loop_w (α := Nat × St × Int × Int × Int × Int) (fun a => l.length - a.1) (fun a => [(0, SL z t (l.map Dp.row)), (4, .int .i64 a.2.2.1), (5, .int .i64 a.2.2.2.1), (6, .int .i64 a.2.2.2.2.1), (7, .int .i64 a.2.2.2.2.2), (8, .int .i64 (a.1 : Int))]) (fun a => a.2.1) (fun a => a.1 ≤ l.length) ?_ (0, [], 0, 0, 0, 0) (Nat.zero_le _)
  rintro ⟨i, s, c4, c5, c6, c7⟩ hi ih
  simp only at hi ih
  refine w_rep (by delta lp57_0; exact rfl) ?_
  have fin : ∀ (s : St) (e ln : Int), ∃ v, some (V.tup [.int .i64 e, .int .i64 ln]) = some v ∧ (okRes v = true ∧ v.refs = [] ∧ back [] v = some v) ∧ Two v := fun _ e ln => ⟨_, rfl, ⟨rfl, rfl, rfl⟩, e, ln, rfl⟩
  rcases Nat.lt_or_ge i l.length with h' | h'
  rotate_left
  · simp only [go_sem, n1, lt_f h']
    exact fin [] _ _
  obtain ⟨x, hx, -, -⟩ := at_some h'
  have hrow : x.row = [.int .i64 x.kind, .int .i64 x.line, .str x.nm, .int .i64 x.size, .int .i64 x.init, .str x.on] := rfl
  obtain ⟨z2, t2, hcut⟩ := sl_cut_hi z t 6 (l.map Dp.row) .i64 i (by omega)
  rw [← List.map_take] at hcut
  have hd := dat_fn z2 t2 (l.take i) x.nm (by rw [List.length_take]; omega)
  have ho := dat_fn z2 t2 (l.take i) x.on (by rw [List.length_take]; omega)
  simp only [go_sem, n1, lt_t h', List.getElem?_map, hx, hrow]
  refine w_drw (by kernel_rfl) ?_
  simp only [go_sem, hcut]
  refine wgx_fn hd (by simp only [go_sem]) ?_
  by_cases g1 : 0 ≤ fIx (fun d : Dp => d.nm == x.nm) (l.take i)
  · have f1 : (0 ≤ fIx (fun d : Dp => d.nm == x.nm) (l.take i)) = True := eq_true g1
    simp only [go_sem, f1, ge_iff_le]
    refine w_drw (by kernel_rfl) ?_
    simp only [go_sem]
    exact fin [] _ _
  have f1 : (0 ≤ fIx (fun d : Dp => d.nm == x.nm) (l.take i)) = False := eq_false g1
  by_cases g2 : 4 < x.size
  · have f2 : ((4 : Int) < x.size) = True := eq_true g2
    simp only [go_sem, f1, ge_iff_le, gt_iff_lt, f2]
    refine w_drw (by kernel_rfl) ?_
    simp only [go_sem]
    exact fin [] _ _
  have f2 : ((4 : Int) < x.size) = False := eq_false g2
  by_cases h1 : x.kind = 1
  · have q1 : (x.kind == 1) = true := by simp [h1]
    have q2 : (x.kind == 2) = false := by simp [h1]
    have q3 : (x.kind == 3) = false := by simp [h1]
    have q4 : (x.kind == 4) = false := by simp [h1]
    have q5 : (x.kind == 5) = false := by simp [h1]
    by_cases u4 : 12 < (IntKind.i64.wrap (c4 + max x.size 1))
    · have t4 : ((12 : Int) < (IntKind.i64.wrap (c4 + max x.size 1))) = True := eq_true u4
      simp only [go_sem, f1, ge_iff_le, gt_iff_lt, f2, q1, q2, q3, q4, q5, t4]
      refine w_drw (by kernel_rfl) ?_
      simp only [go_sem]
      exact fin [] _ _
    have t4 : ((12 : Int) < (IntKind.i64.wrap (c4 + max x.size 1))) = False := eq_false u4
    by_cases u5 : 4 < c5
    · have t5 : ((4 : Int) < c5) = True := eq_true u5
      simp only [go_sem, f1, ge_iff_le, gt_iff_lt, f2, q1, q2, q3, q4, q5, t4, t5]
      refine w_drw (by kernel_rfl) ?_
      simp only [go_sem]
      exact fin [] _ _
    have t5 : ((4 : Int) < c5) = False := eq_false u5
    by_cases u6 : 2 < c6
    · have t6 : ((2 : Int) < c6) = True := eq_true u6
      simp only [go_sem, f1, ge_iff_le, gt_iff_lt, f2, q1, q2, q3, q4, q5, t4, t5, t6]
      refine w_drw (by kernel_rfl) ?_
      simp only [go_sem]
      exact fin [] _ _
    have t6 : ((2 : Int) < c6) = False := eq_false u6
    by_cases u7 : 2 < c7
    · have t7 : ((2 : Int) < c7) = True := eq_true u7
      simp only [go_sem, f1, ge_iff_le, gt_iff_lt, f2, q1, q2, q3, q4, q5, t4, t5, t6, t7]
      refine w_drw (by kernel_rfl) ?_
      simp only [go_sem]
      exact fin [] _ _
    have t7 : ((2 : Int) < c7) = False := eq_false u7
    simp only [go_sem, f1, ge_iff_le, gt_iff_lt, f2, q1, q2, q3, q4, q5, t4, t5, t6, t7, inc64 (show i < 9223372036854775807 by omega)]
    exact W_keep (ih (i + 1, _, (IntKind.i64.wrap (c4 + max x.size 1)), c5, c6, c7) (by simp only; omega) h') rfl
  by_cases h2 : x.kind = 2
  · have q1 : (x.kind == 1) = false := by simp [h2]
    have q2 : (x.kind == 2) = true := by simp [h2]
    have q3 : (x.kind == 3) = false := by simp [h2]
    have q4 : (x.kind == 4) = false := by simp [h2]
    have q5 : (x.kind == 5) = false := by simp [h2]
    by_cases u4 : 12 < (IntKind.i64.wrap (c4 + max x.size 1))
    · have t4 : ((12 : Int) < (IntKind.i64.wrap (c4 + max x.size 1))) = True := eq_true u4
      simp only [go_sem, f1, ge_iff_le, gt_iff_lt, f2, q1, q2, q3, q4, q5, t4]
      refine w_drw (by kernel_rfl) ?_
      simp only [go_sem]
      exact fin [] _ _
    have t4 : ((12 : Int) < (IntKind.i64.wrap (c4 + max x.size 1))) = False := eq_false u4
    by_cases u5 : 4 < c5
    · have t5 : ((4 : Int) < c5) = True := eq_true u5
      simp only [go_sem, f1, ge_iff_le, gt_iff_lt, f2, q1, q2, q3, q4, q5, t4, t5]
      refine w_drw (by kernel_rfl) ?_
      simp only [go_sem]
      exact fin [] _ _
    have t5 : ((4 : Int) < c5) = False := eq_false u5
    by_cases u6 : 2 < c6
    · have t6 : ((2 : Int) < c6) = True := eq_true u6
      simp only [go_sem, f1, ge_iff_le, gt_iff_lt, f2, q1, q2, q3, q4, q5, t4, t5, t6]
      refine w_drw (by kernel_rfl) ?_
      simp only [go_sem]
      exact fin [] _ _
    have t6 : ((2 : Int) < c6) = False := eq_false u6
    by_cases u7 : 2 < c7
    · have t7 : ((2 : Int) < c7) = True := eq_true u7
      simp only [go_sem, f1, ge_iff_le, gt_iff_lt, f2, q1, q2, q3, q4, q5, t4, t5, t6, t7]
      refine w_drw (by kernel_rfl) ?_
      simp only [go_sem]
      exact fin [] _ _
    have t7 : ((2 : Int) < c7) = False := eq_false u7
    simp only [go_sem, f1, ge_iff_le, gt_iff_lt, f2, q1, q2, q3, q4, q5, t4, t5, t6, t7, inc64 (show i < 9223372036854775807 by omega)]
    exact W_keep (ih (i + 1, _, (IntKind.i64.wrap (c4 + max x.size 1)), c5, c6, c7) (by simp only; omega) h') rfl
  by_cases h3 : x.kind = 3
  · have q1 : (x.kind == 1) = false := by simp [h3]
    have q2 : (x.kind == 2) = false := by simp [h3]
    have q3 : (x.kind == 3) = true := by simp [h3]
    have q4 : (x.kind == 4) = false := by simp [h3]
    have q5 : (x.kind == 5) = false := by simp [h3]
    by_cases u4 : 12 < c4
    · have t4 : ((12 : Int) < c4) = True := eq_true u4
      simp only [go_sem, f1, ge_iff_le, gt_iff_lt, f2, q1, q2, q3, q4, q5, t4]
      refine w_drw (by kernel_rfl) ?_
      simp only [go_sem]
      exact fin [] _ _
    have t4 : ((12 : Int) < c4) = False := eq_false u4
    by_cases u5 : 4 < (IntKind.i64.wrap (c5 + 1))
    · have t5 : ((4 : Int) < (IntKind.i64.wrap (c5 + 1))) = True := eq_true u5
      simp only [go_sem, f1, ge_iff_le, gt_iff_lt, f2, q1, q2, q3, q4, q5, t4, t5]
      refine w_drw (by kernel_rfl) ?_
      simp only [go_sem]
      exact fin [] _ _
    have t5 : ((4 : Int) < (IntKind.i64.wrap (c5 + 1))) = False := eq_false u5
    by_cases u6 : 2 < c6
    · have t6 : ((2 : Int) < c6) = True := eq_true u6
      simp only [go_sem, f1, ge_iff_le, gt_iff_lt, f2, q1, q2, q3, q4, q5, t4, t5, t6]
      refine w_drw (by kernel_rfl) ?_
      simp only [go_sem]
      exact fin [] _ _
    have t6 : ((2 : Int) < c6) = False := eq_false u6
    by_cases u7 : 2 < c7
    · have t7 : ((2 : Int) < c7) = True := eq_true u7
      simp only [go_sem, f1, ge_iff_le, gt_iff_lt, f2, q1, q2, q3, q4, q5, t4, t5, t6, t7]
      refine w_drw (by kernel_rfl) ?_
      simp only [go_sem]
      exact fin [] _ _
    have t7 : ((2 : Int) < c7) = False := eq_false u7
    simp only [go_sem, f1, ge_iff_le, gt_iff_lt, f2, q1, q2, q3, q4, q5, t4, t5, t6, t7, inc64 (show i < 9223372036854775807 by omega)]
    exact W_keep (ih (i + 1, _, c4, (IntKind.i64.wrap (c5 + 1)), c6, c7) (by simp only; omega) h') rfl
  by_cases h4 : x.kind = 4
  · have q1 : (x.kind == 1) = false := by simp [h4]
    have q2 : (x.kind == 2) = false := by simp [h4]
    have q3 : (x.kind == 3) = false := by simp [h4]
    have q4 : (x.kind == 4) = true := by simp [h4]
    have q5 : (x.kind == 5) = false := by simp [h4]
    by_cases u4 : 12 < c4
    · have t4 : ((12 : Int) < c4) = True := eq_true u4
      simp only [go_sem, f1, ge_iff_le, gt_iff_lt, f2, q1, q2, q3, q4, q5, t4]
      refine w_drw (by kernel_rfl) ?_
      simp only [go_sem]
      exact fin [] _ _
    have t4 : ((12 : Int) < c4) = False := eq_false u4
    by_cases u5 : 4 < (IntKind.i64.wrap (c5 + 1))
    · have t5 : ((4 : Int) < (IntKind.i64.wrap (c5 + 1))) = True := eq_true u5
      simp only [go_sem, f1, ge_iff_le, gt_iff_lt, f2, q1, q2, q3, q4, q5, t4, t5]
      refine w_drw (by kernel_rfl) ?_
      simp only [go_sem]
      exact fin [] _ _
    have t5 : ((4 : Int) < (IntKind.i64.wrap (c5 + 1))) = False := eq_false u5
    by_cases u6 : 2 < c6
    · have t6 : ((2 : Int) < c6) = True := eq_true u6
      simp only [go_sem, f1, ge_iff_le, gt_iff_lt, f2, q1, q2, q3, q4, q5, t4, t5, t6]
      refine w_drw (by kernel_rfl) ?_
      simp only [go_sem]
      exact fin [] _ _
    have t6 : ((2 : Int) < c6) = False := eq_false u6
    by_cases u7 : 2 < c7
    · have t7 : ((2 : Int) < c7) = True := eq_true u7
      simp only [go_sem, f1, ge_iff_le, gt_iff_lt, f2, q1, q2, q3, q4, q5, t4, t5, t6, t7]
      refine w_drw (by kernel_rfl) ?_
      simp only [go_sem]
      exact fin [] _ _
    have t7 : ((2 : Int) < c7) = False := eq_false u7
    simp only [go_sem, f1, ge_iff_le, gt_iff_lt, f2, q1, q2, q3, q4, q5, t4, t5, t6, t7, inc64 (show i < 9223372036854775807 by omega)]
    exact W_keep (ih (i + 1, _, c4, (IntKind.i64.wrap (c5 + 1)), c6, c7) (by simp only; omega) h') rfl
  by_cases h5 : x.kind = 5
  · have q1 : (x.kind == 1) = false := by simp [h5]
    have q2 : (x.kind == 2) = false := by simp [h5]
    have q3 : (x.kind == 3) = false := by simp [h5]
    have q4 : (x.kind == 4) = false := by simp [h5]
    have q5 : (x.kind == 5) = true := by simp [h5]
    by_cases u4 : 12 < c4
    · have t4 : ((12 : Int) < c4) = True := eq_true u4
      simp only [go_sem, f1, ge_iff_le, gt_iff_lt, f2, q1, q2, q3, q4, q5, t4]
      refine w_drw (by kernel_rfl) ?_
      simp only [go_sem]
      exact fin [] _ _
    have t4 : ((12 : Int) < c4) = False := eq_false u4
    by_cases u5 : 4 < c5
    · have t5 : ((4 : Int) < c5) = True := eq_true u5
      simp only [go_sem, f1, ge_iff_le, gt_iff_lt, f2, q1, q2, q3, q4, q5, t4, t5]
      refine w_drw (by kernel_rfl) ?_
      simp only [go_sem]
      exact fin [] _ _
    have t5 : ((4 : Int) < c5) = False := eq_false u5
    by_cases u6 : 2 < (IntKind.i64.wrap (c6 + 1))
    · have t6 : ((2 : Int) < (IntKind.i64.wrap (c6 + 1))) = True := eq_true u6
      simp only [go_sem, f1, ge_iff_le, gt_iff_lt, f2, q1, q2, q3, q4, q5, t4, t5, t6]
      refine w_drw (by kernel_rfl) ?_
      simp only [go_sem]
      exact fin [] _ _
    have t6 : ((2 : Int) < (IntKind.i64.wrap (c6 + 1))) = False := eq_false u6
    by_cases u7 : 2 < c7
    · have t7 : ((2 : Int) < c7) = True := eq_true u7
      simp only [go_sem, f1, ge_iff_le, gt_iff_lt, f2, q1, q2, q3, q4, q5, t4, t5, t6, t7]
      refine w_drw (by kernel_rfl) ?_
      simp only [go_sem]
      exact fin [] _ _
    have t7 : ((2 : Int) < c7) = False := eq_false u7
    simp only [go_sem, f1, ge_iff_le, gt_iff_lt, f2, q1, q2, q3, q4, q5, t4, t5, t6, t7, inc64 (show i < 9223372036854775807 by omega)]
    refine w_drw (by kernel_rfl) ?_
    simp only [go_sem, hcut]
    refine wgx_fn ho (by simp only [go_sem]) ?_
    by_cases g3 : 0 ≤ fIx (fun d : Dp => d.nm == x.on) (l.take i)
    · have g4 := (fix_rng (fun d : Dp => d.nm == x.on) (l.take i)).2
      obtain ⟨k, hk⟩ : ∃ k : Nat, fIx (fun d : Dp => d.nm == x.on) (l.take i) = k := ⟨_, (Int.toNat_of_nonneg g3).symm⟩
      rw [hk, List.length_take] at g4
      obtain ⟨y, hy, -, -⟩ := at_some (l := l) (i := k) (by omega)
      have hyr : y.row = [.int .i64 y.kind, .int .i64 y.line, .str y.nm, .int .i64 y.size, .int .i64 y.init, .str y.on] := rfl
      have f3 : ((k : Int) < 0) = False := eq_false (by omega)
      rw [hk]
      cases q3b : (y.kind == 3)
      · simp only [go_sem, f3, List.getElem?_map, hy, hyr, q3b, bne, Bool.not_false]
        refine w_drw (by kernel_rfl) ?_
        simp only [go_sem]
        exact fin [] _ _
      · simp only [go_sem, f3, List.getElem?_map, hy, hyr, q3b, bne, Bool.not_true, inc64 (show i < 9223372036854775807 by omega)]
        exact W_keep (ih (i + 1, _, c4, c5, (IntKind.i64.wrap (c6 + 1)), c7) (by simp only; omega) h') rfl
    · rw [neg_ix g3]
      simp only [go_sem, Int.reduceLT, Int.reduceNeg]
      refine w_drw (by kernel_rfl) ?_
      simp only [go_sem]
      exact fin [] _ _
  have q1 : (x.kind == 1) = false := by simp [h1]
  have q2 : (x.kind == 2) = false := by simp [h2]
  have q3 : (x.kind == 3) = false := by simp [h3]
  have q4 : (x.kind == 4) = false := by simp [h4]
  have q5 : (x.kind == 5) = false := by simp [h5]
  by_cases u4 : 12 < c4
  · have t4 : ((12 : Int) < c4) = True := eq_true u4
    simp only [go_sem, f1, ge_iff_le, gt_iff_lt, f2, q1, q2, q3, q4, q5, t4]
    refine w_drw (by kernel_rfl) ?_
    simp only [go_sem]
    exact fin [] _ _
  have t4 : ((12 : Int) < c4) = False := eq_false u4
  by_cases u5 : 4 < c5
  · have t5 : ((4 : Int) < c5) = True := eq_true u5
    simp only [go_sem, f1, ge_iff_le, gt_iff_lt, f2, q1, q2, q3, q4, q5, t4, t5]
    refine w_drw (by kernel_rfl) ?_
    simp only [go_sem]
    exact fin [] _ _
  have t5 : ((4 : Int) < c5) = False := eq_false u5
  by_cases u6 : 2 < c6
  · have t6 : ((2 : Int) < c6) = True := eq_true u6
    simp only [go_sem, f1, ge_iff_le, gt_iff_lt, f2, q1, q2, q3, q4, q5, t4, t5, t6]
    refine w_drw (by kernel_rfl) ?_
    simp only [go_sem]
    exact fin [] _ _
  have t6 : ((2 : Int) < c6) = False := eq_false u6
  by_cases u7 : 2 < (IntKind.i64.wrap (c7 + 1))
  · have t7 : ((2 : Int) < (IntKind.i64.wrap (c7 + 1))) = True := eq_true u7
    simp only [go_sem, f1, ge_iff_le, gt_iff_lt, f2, q1, q2, q3, q4, q5, t4, t5, t6, t7]
    refine w_drw (by kernel_rfl) ?_
    simp only [go_sem]
    exact fin [] _ _
  have t7 : ((2 : Int) < (IntKind.i64.wrap (c7 + 1))) = False := eq_false u7
  simp only [go_sem, f1, ge_iff_le, gt_iff_lt, f2, q1, q2, q3, q4, q5, t4, t5, t6, t7, inc64 (show i < 9223372036854775807 by omega)]
  exact W_keep (ih (i + 1, _, c4, c5, c6, (IntKind.i64.wrap (c7 + 1))) (by simp only; omega) h') rfl
set_option maxHeartbeats 4000000 in
theorem threads4_fn {p : Gp} (hp : LnG p) : ∃ v, Fn TT PT 58 [.agg p.row] v ∧ Two v := by
  obtain ⟨dz, dt, decls, tz, tt, thrs⟩ := p
  obtain ⟨h1, h2, h3⟩ := hp
  simp only at h1 h2 h3 ⊢
  unfold Gp.row
  simp only
  have n1 : (decls.map Dp.row).length = decls.length := List.length_map ..
  have n2 : (thrs.map Tp.row).length = thrs.length := List.length_map ..
  refine fn_rel T58 rfl ?_
  have fin : ∀ (s : St) (e ln : Int), ∃ v, some (V.tup [.int .i64 e, .int .i64 ln]) = some v ∧ (okRes v = true ∧ v.refs = [] ∧ back [] v = some v) ∧ Two v := fun _ e ln => ⟨_, rfl, ⟨rfl, rfl, rfl⟩, e, ln, rfl⟩
  simp only [go_sem]
  refine loop_w (α := Nat × St) (fun a => thrs.length - a.1) (fun a => [(1, .ptr 0 0 0), (4, .int .i64 (a.1 : Int))]) (fun a => a.2) (fun a => a.1 ≤ thrs.length ∧ a.2[0]? = some (.row [SL dz dt (decls.map Dp.row), SL tz tt (thrs.map Tp.row)] 26 0 0)) ?_ (0, _) ⟨Nat.zero_le _, rfl⟩
  rintro ⟨i, s⟩ ⟨hi, hs⟩ ih
  simp only at hi hs ih
  refine w_rep (by delta lp58_0; exact rfl) ?_
  rcases Nat.lt_or_ge i thrs.length with h' | h'
  · obtain ⟨x, hx, -, -⟩ := at_some h'
    have hrow : x.row = [.str x.nm, .int .i64 x.line, SL x.lz x.lt (x.locals.map fun s => [V.str s]), SL x.bz x.bt (x.body.map Sp.row)] := rfl
    obtain ⟨s', hs'⟩ : ∃ s', s' = s ++ [Ob.row [.str x.nm, .int .i64 x.line, SL x.lz x.lt (x.locals.map fun s => [V.str s]), SL x.bz x.bt (x.body.map Sp.row)] 35 0 0] := ⟨_, rfl⟩
    have k1 : s'[s.length]? = some (.row [.str x.nm, .int .i64 x.line, SL x.lz x.lt (x.locals.map fun s => [V.str s]), SL x.bz x.bt (x.body.map Sp.row)] 35 0 0) := by rw [hs', List.getElem?_append_right (Nat.le_refl _), Nat.sub_self]; rfl
    have k0 : s'[0]? = some (.row [SL dz dt (decls.map Dp.row), SL tz tt (thrs.map Tp.row)] 26 0 0) := by rw [hs']; exact get_app_some hs
    have hd := dat_fn dz dt decls x.nm (by omega)
    obtain ⟨z2, t2, hcut⟩ := sl_cut_hi tz tt 4 (thrs.map Tp.row) .i64 i (by omega)
    rw [← List.map_take] at hcut
    have ht := tat_fn z2 t2 (thrs.take i) x.nm (by rw [List.length_take]; omega)
    simp only [go_sem, hs, n2, lt_t h', List.getElem?_map, hx, hrow]
    rw [← hs']
    refine w_drw (by kernel_rfl) ?_
    simp only [go_sem, k0, k1]
    refine wgx_fn hd (by simp only [go_sem]) ?_
    by_cases g1 : 0 ≤ fIx (fun d : Dp => d.nm == x.nm) decls
    · have f1 : (0 ≤ fIx (fun d : Dp => d.nm == x.nm) decls) = True := eq_true g1
      simp only [go_sem, f1, ge_iff_le]
      refine w_drw (by kernel_rfl) ?_
      simp only [go_sem, k1]
      exact fin [] _ _
    have f1 : (0 ≤ fIx (fun d : Dp => d.nm == x.nm) decls) = False := eq_false g1
    simp only [go_sem, f1, ge_iff_le, k0, k1, hcut]
    refine wgx_fn ht (by simp only [go_sem]) ?_
    by_cases g2 : 0 ≤ fIx (fun d : Tp => d.nm == x.nm) (thrs.take i)
    · have f2 : (0 ≤ fIx (fun d : Tp => d.nm == x.nm) (thrs.take i)) = True := eq_true g2
      simp only [go_sem, f2, ge_iff_le]
      refine w_drw (by kernel_rfl) ?_
      simp only [go_sem, k1]
      exact fin [] _ _
    have f2 : (0 ≤ fIx (fun d : Tp => d.nm == x.nm) (thrs.take i)) = False := eq_false g2
    simp only [go_sem, f2, ge_iff_le, inc64 (show i < 9223372036854775807 by omega)]
    exact W_keep (ih (i + 1, s') (by simp only; omega) ⟨h', k0⟩) rfl
  simp only [go_sem, hs, n2, lt_f h']
  clear ih
  refine loop_w (α := Nat × St) (fun a => thrs.length - a.1) (fun a => [(1, .ptr 0 0 0), (6, .int .i64 (a.1 : Int))]) (fun a => a.2) (fun a => a.1 ≤ thrs.length ∧ a.2[0]? = some (.row [SL dz dt (decls.map Dp.row), SL tz tt (thrs.map Tp.row)] 26 0 0)) ?_ (0, s) ⟨Nat.zero_le _, hs⟩
  clear hs hi h' i s
  rintro ⟨i, s⟩ ⟨hi, hs⟩ ih
  simp only at hi hs ih
  refine w_rep (by delta lp58_2; exact rfl) ?_
  rcases Nat.lt_or_ge i thrs.length with h' | h'
  rotate_left
  · simp only [go_sem, hs, n2, lt_f h']
    exact fin [] _ _
  obtain ⟨x, hx, -, hm⟩ := at_some h'
  have hloc := h3 x hm
  have n3 : (x.locals.map fun s => [V.str s]).length = x.locals.length := List.length_map ..
  have hrow : x.row = [.str x.nm, .int .i64 x.line, SL x.lz x.lt (x.locals.map fun s => [V.str s]), SL x.bz x.bt (x.body.map Sp.row)] := rfl
  obtain ⟨s', hs'⟩ : ∃ s', s' = s ++ [Ob.row [.str x.nm, .int .i64 x.line, SL x.lz x.lt (x.locals.map fun s => [V.str s]), SL x.bz x.bt (x.body.map Sp.row)] 35 0 0] := ⟨_, rfl⟩
  have k1 : s'[s.length]? = some (.row [.str x.nm, .int .i64 x.line, SL x.lz x.lt (x.locals.map fun s => [V.str s]), SL x.bz x.bt (x.body.map Sp.row)] 35 0 0) := by rw [hs', List.getElem?_append_right (Nat.le_refl _), Nat.sub_self]; rfl
  have k0 : s'[0]? = some (.row [SL dz dt (decls.map Dp.row), SL tz tt (thrs.map Tp.row)] 26 0 0) := by rw [hs']; exact get_app_some hs
  by_cases g4 : 4 < x.locals.length
  · have f4 : ((4 : Int) < (x.locals.length : Int)) = True := eq_true (by omega)
    simp only [go_sem, hs, n2, lt_t h', List.getElem?_map, hx, hrow]
    rw [← hs']
    simp only [go_sem, k1, n3, gt_iff_lt, f4]
    refine w_drw (by kernel_rfl) ?_
    simp only [go_sem, k1]
    exact fin [] _ _
  have f4 : ((4 : Int) < (x.locals.length : Int)) = False := eq_false (by omega)
  simp only [go_sem, hs, n2, lt_t h', List.getElem?_map, hx, hrow]
  rw [← hs']
  simp only [go_sem, k1, n3, gt_iff_lt, f4]
  refine loop_w (α := Nat) (fun k => x.locals.length - k) (fun k => [(1, .ptr 0 0 0), (6, .int .i64 (i : Int)), (7, .ptr s.length 0 0), (8, .int .i64 (k : Int))]) (fun _ => s') (fun k => k ≤ x.locals.length) ?_ 0 (Nat.zero_le _)
  rintro k hk jh
  refine w_rep (by delta lp58_1; exact rfl) ?_
  rcases Nat.lt_or_ge k x.locals.length with g' | g'
  rotate_left
  · simp only [go_sem, k1, n3, lt_f g', inc64 (show i < 9223372036854775807 by omega)]
    exact W_keep (ih (i + 1, s') (by simp only; omega) ⟨h', k0⟩) rfl
  obtain ⟨y, hy, -, -⟩ := at_some g'
  have hd := dat_fn dz dt decls y (by omega)
  have ht := tat_fn tz tt thrs y (by omega)
  obtain ⟨z2, t2, hcut⟩ := sl_cut_hi x.lz x.lt 1 (x.locals.map fun s => [V.str s]) .i64 k (by omega)
  rw [← List.map_take] at hcut
  have ha := at4_fn z2 t2 (x.locals.take k) y (by rw [List.length_take]; omega)
  simp only [go_sem, k1, k0, n3, lt_t g', List.getElem?_map, hy]
  refine wx_fn hd (by simp only [go_sem]) ?_
  by_cases g1 : 0 ≤ fIx (fun d : Dp => d.nm == y) decls
  · have f1 : (0 ≤ fIx (fun d : Dp => d.nm == y) decls) = True := eq_true g1
    simp only [go_sem, f1, ge_iff_le]
    refine w_drw (by kernel_rfl) ?_
    simp only [go_sem, k1]
    exact fin [] _ _
  have f1 : (0 ≤ fIx (fun d : Dp => d.nm == y) decls) = False := eq_false g1
  simp only [go_sem, f1, ge_iff_le, k0, k1]
  refine wx_fn ht (by simp only [go_sem]) ?_
  by_cases g2 : 0 ≤ fIx (fun d : Tp => d.nm == y) thrs
  · have f2 : (0 ≤ fIx (fun d : Tp => d.nm == y) thrs) = True := eq_true g2
    simp only [go_sem, f2, ge_iff_le]
    refine w_drw (by kernel_rfl) ?_
    simp only [go_sem, k1]
    exact fin [] _ _
  have f2 : (0 ≤ fIx (fun d : Tp => d.nm == y) thrs) = False := eq_false g2
  simp only [go_sem, f2, ge_iff_le, k1, hcut]
  refine wx_fn ha (by simp only [go_sem]) ?_
  by_cases g3 : 0 ≤ fIx (· == y) (x.locals.take k)
  · have f3 : (0 ≤ fIx (· == y) (x.locals.take k)) = True := eq_true g3
    simp only [go_sem, f3, ge_iff_le]
    refine w_drw (by kernel_rfl) ?_
    simp only [go_sem, k1]
    exact fin [] _ _
  have f3 : (0 ≤ fIx (· == y) (x.locals.take k)) = False := eq_false g3
  simp only [go_sem, f3, ge_iff_le, inc64 (show k < 9223372036854775807 by omega)]
  exact W_keep (jh (k + 1) (by omega) g') rfl
end Go.Proofs.YtlehfgdhebapeaaDoor.KM
