/- Walks: the maker of programs: blocks, statements. -/
import Derived.Test.YtlehfgdhebapeaaDoorIj
import Derived.Test.YtlehfgdhebapeaaDoorHc
set_option linter.all false
namespace Go.Proofs.YtlehfgdhebapeaaDoor.KM
open Go
set_option maxHeartbeats 2000000 in
theorem mblock_th {k : Nat} (hS : MSs k) : MBl k := by
  intro σ m b uH H nm h hH
  have hm0 := mr_lt h
  obtain ⟨th, left, se, tx, ao, lp, m1⟩ := h.row
  have n1 : (H.map fun x => [V.str x]).length = H.length := List.length_map ..
  obtain ⟨u', s2, e1, g, hl, hB, hr, hc⟩ := gs_push (bytes := 16) (row := [.str nm]) h.h (by omega) rfl rfl (by rw [n1]; omega)
  have g' : GS s2 1 9 u' ((H ++ [nm]).map fun x => [V.str x]) := by rw [List.map_append]; exact g
  obtain ⟨h2, w2⟩ := mr_new h th left se tx ao lp hl hB g' hr (hc h.cl)
  have m2 : s2[m]? = some (.row [.ptr b 0 0, .int .i64 th, .int .i64 left, .bool se, .bool tx, .bool ao, .bool lp, uH] 80 0 0) := (hB m hm0 fun e => (h.hd m e).1 rfl).trans m1
  obtain ⟨hcc, hca⟩ := cell_c9 (gs_cell g)
  obtain ⟨s3, e3⟩ : ∃ t, t = s2.set m (.row [.ptr b 0 0, .int .i64 th, .int .i64 left, .bool se, .bool tx, .bool ao, .bool lp, u'] 80 0 0) := ⟨_, rfl⟩
  rw [← e3] at h2 w2
  have m3 : s3[m]? = some (.row [.ptr b 0 0, .int .i64 th, .int .i64 left, .bool se, .bool tx, .bool ao, .bool lp, u'] 80 0 0) := by rw [e3]; exact List.getElem?_set_self (by omega)
  obtain ⟨r, s4, q4, h4, w4, l4, r4, mm4⟩ := mr_next h2 2 2 rfl (by omega)
  have e4 : IntKind.i64.wrap (1 + (r : Int)) = ((1 + r : Nat) : Int) := by rw [wrap64 (by omega)]; omega
  obtain ⟨v, s5, q5, L, uH5, hO, hL, hn, h5, w5⟩ := hS s4 m b u' (H ++ [nm]) h4 (by rw [List.length_append, List.length_singleton]; omega) (1 + r) (by omega)
  have hcv := gs_cell hO.1
  obtain ⟨th5, left5, se5, tx5, ao5, lp5, m5⟩ := h5.row
  have g5 := h5.h
  rw [List.map_append, List.map_cons, List.map_nil] at g5
  obtain ⟨u6, hsl, g6, hr6⟩ := gs_pop g5
  rw [n1] at hsl
  obtain ⟨hcc6, hca6⟩ := cell_c9 (gs_cell g6)
  obtain ⟨h6, w6⟩ := mr_new (H' := H) h5 th5 left5 se5 tx5 ao5 lp5 (Nat.le_refl _) (fun _ _ _ => rfl) g6 (fun j hj => .inl (by rw [← hr6]; exact hj)) h5.cl
  have hO6 := ol_fw hO w6
  have w26 := fw_trans w2 (fw_trans w4 (fw_trans w5 w6))
  have l5 := gs_len h5.h
  rw [List.length_map, List.length_append, List.length_singleton] at l5
  have e5 : IntKind.i64.wrap (((H.length + 1 : Nat) : Int) - 1) = (H.length : Int) := by rw [wrap64 (by omega)]; omega
  have hO0 : OL σ (s5.set m (.row [.ptr b 0 0, .int .i64 th5, .int .i64 left5, .bool se5, .bool tx5, .bool ao5, .bool lp5, u6] 80 0 0)) m v L := ⟨hO6.1, fun j hj => ⟨by have := (hO6.2 j hj).1; have := w2.1; have := w4.1; omega, (hO6.2 j hj).2⟩⟩
  refine th_keepP T84 rfl ?_
  simp only [go_sem, m1, e1, m2, hcc, hca]
  rw [← e3]
  simp only [go_sem, m3]
  refine wx_any q4 ?_
  simp only [go_sem, e4]
  refine wx_any q5 ?_
  simp only [go_sem]
  refine w_drw (by kernel_rfl) ?_
  simp only [go_sem, m5, l5, e5, hsl, hcc6, hca6]
  refine wgE ?_
  simp only [go_sem]
  exact ⟨v, rfl, ⟨by cases v <;> simp [V.cellB] at hcv <;> rfl, gs_refs hO0.1⟩, ⟨w26.1, h6.cl⟩, L, u6, hO0, hL, by omega, h6, w26⟩
end Go.Proofs.YtlehfgdhebapeaaDoor.KM
