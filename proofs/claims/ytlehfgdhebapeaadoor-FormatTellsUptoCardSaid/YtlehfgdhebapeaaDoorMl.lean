/- Walks: the law of the texts of programs. -/
import Derived.Test.YtlehfgdhebapeaaDoorMj
import Derived.Test.YtlehfgdhebapeaaDoorHf
set_option linter.all false
namespace Go.Proofs.YtlehfgdhebapeaaDoor.KM
open Go
theorem brows_nM (l : List UInt8) : (byteRows l).length = l.length := by simp [byteRows]
theorem cells2M {a b : V} (h : [a, b].all V.rowB = true) : a.cellB = true ∧ b.cellB = true := by
  simp only [List.all_cons, List.all_nil, Bool.and_true, Bool.and_eq_true] at h
  exact ⟨row_cell h.1, row_cell h.2⟩
theorem gsetM (x : Gp) : x.row.all V.rowB = true := by
  unfold Gp.row
  simp only [List.all_cons, List.all_nil, sl_rowB]
  rfl
theorem growM (x : Gp) : x.row = [SL x.dz x.dt (x.decls.map Dp.row), SL x.tz x.tt (x.thrs.map Tp.row)] := rfl
theorem lawTells_fn (z : Bool) (t : Nat) (l : List UInt8) (hl : l.length ≤ 9223372036854775807) (p : Gp) (hg : RgG p) (hb : bulkRow p.row ≤ 1048576) : Fn TT PT 3 [SL z t (byteRows l), .agg p.row] (.bool true) := by
  have n1 := brows_nM l
  have hs := shg_fn p (by omega)
  have hps := gsetM p
  obtain ⟨hy1, hy2⟩ := cells2M hps
  have hpr := growM p
  rw [hpr] at hs hps ⊢
  refine Fn_go T3 rfl ?_
  by_cases h300 : 300 < l.length
  · have f1 : ((300 : Int) < (l.length : Int)) = True := eq_true (by omega)
    simp only [go_sem, n1, f1, gt_iff_lt]
    exact fr_eq rfl rfl
  have f1 : ((300 : Int) < (l.length : Int)) = False := eq_false (by omega)
  obtain ⟨q, q1, hsh, hlen, hsz⟩ := loose_fn z t l hl
  have q2 := fprog_fn (shg_cn hsh) (by omega) fun t ht => by have := hsz t ht; omega
  have q3 := rprog_fn (shg_cn hsh) (by omega)
  have hqr := growM q
  have hqs := gsetM q
  rw [hqr] at q1 q2 q3 hqs
  obtain ⟨hx1, hx2⟩ := cells2M hqs
  simp only [go_sem, n1, f1, gt_iff_lt]
  refine wx_fn q1 (by simp only [go_sem]) ?_
  simp only [go_sem, hx1, hx2]
  refine w_drw (by kernel_rfl) ?_
  simp only [go_sem]
  refine wgx_fn q2 (by simp only [go_sem]) ?_
  simp only [go_sem]
  refine wgx_fn q3 (by simp only [go_sem]) ?_
  simp only [go_sem, beq_self_eq_true]
  refine wgx_fn hs (by simp only [go_sem]) ?_
  cases hc : shG p
  · simp only [go_sem, Bool.not_false]
    exact fr_eq rfl rfl
  · have hG := shg_of hg hc
    obtain ⟨b1, b2⟩ := prog_bulk (K := 1048577) hG (by omega)
    have b3 : (1048577 + 32) * bulkRow p.row ≤ (1048577 + 32) * 1048576 := Nat.mul_le_mul_left _ hb
    have p2 := fprog_fn (shg_cn hG) (by omega) fun t ht => by have := b2 t ht; omega
    have p3 := rprog_fn (shg_cn hG) (by omega)
    rw [hpr] at p2 p3
    simp only [go_sem, Bool.not_true]
    refine wgx_fn p2 (by simp only [go_sem]) ?_
    simp only [go_sem]
    refine wgx_fn p3 (by simp only [go_sem]) ?_
    simp only [go_sem, beq_self_eq_true]
    exact fr_eq rfl rfl
end Go.Proofs.YtlehfgdhebapeaaDoor.KM
