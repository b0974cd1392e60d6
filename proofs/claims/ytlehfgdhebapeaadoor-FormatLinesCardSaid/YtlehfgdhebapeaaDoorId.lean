/- Walks: one statement as the static rules see it. -/
import Derived.Test.YtlehfgdhebapeaaDoorIc
set_option linter.all false
namespace Go.Proofs.YtlehfgdhebapeaaDoor.KM
open Go
theorem rdP {s : St} {ob k off n x : Nat} {cs vs : List V} {e : Env} (q : s[ob]? = some (.row cs k 0 0)) (he : e.get x = .ptr ob 0 off) (hl : off + n ≤ cs.length) (hv : (cs.drop off).take n = vs) : evalOp (.load n false (.t x)) e s = some (.agg vs, s) := by
  simp only [evalOp, src, he, loadV, q]
  rw [if_pos ⟨trivial, hl⟩, hv]
  rfl
theorem cell_c4 {v : V} (h : v.cellB = true) : v.cells = [v] ∧ [v].all V.cellB = true := ⟨by cases v <;> simp [V.cellB] at h <;> rfl, by simp only [List.all_cons, List.all_nil, h]; rfl⟩
theorem ov_gs {σ : St} {u : V} {L : List (List UInt8)} (h : GS σ 1 9 u (L.map fun x => [V.str x])) : ∃ z, OV σ u (SL z 0 (L.map fun x => [V.str x])) := by
  obtain ⟨z, hz⟩ := gs_oc h (by omega)
  exact ⟨z, ov_cell hz (gs_cell h)⟩
/-- what a step of the walker leaves -/
def OneR (w : Nat) (p : Gp) (th : Int) (uA : V) (A : List (List V)) (S T : List (List UInt8)) (σ : St) (v : V) (σ' : St) : Prop := ∃ e : Int, v = .int .i64 e ∧ ∃ (vS vT : V) (S' T' : List (List UInt8)), WK σ' w p th uA vS vT A (S'.map fun x => [V.str x]) (T'.map fun x => [V.str x]) ∧ FW w σ σ' ∧ S'.length ≤ S.length + 1 ∧ T'.length ≤ T.length + 1
set_option maxHeartbeats 8000000 in
theorem one_th {σ : St} {w : Nat} {p : Gp} {th : Int} {uA uS uT : V} {X : List Sp} {S T : List (List UInt8)} (h : WK σ w p th uA uS uT (X.map Sp.row) (S.map fun x => [V.str x]) (T.map fun x => [V.str x])) (hp : LnG p) (hX : X.length ≤ 1000000) (hS : S.length ≤ 1000000) (hT : T.length ≤ 1000000) (x : Sp) (hx : bulkRow x.row ≤ 1000000000) :
    ∃ v σ', Th TT PT 88 [.ptr w 0 0, .agg x.row] σ v σ' ∧ OneR w p th uA (X.map Sp.row) S T σ v σ' := by
  obtain ⟨op, line, nm, arg, iz, it, idx, ex, bz, bt, body, ez, et, els⟩ := x
  have hbx := hx
  rw [bulks] at hbx
  simp only at hbx
  have hxs := sset ⟨op, line, nm, arg, iz, it, idx, ex, bz, bt, body, ez, et, els⟩
  rw [srow11] at hxs ⊢
  simp only at hxs ⊢
  obtain ⟨_, w81, r81, rfl, -⟩ := want_fn hp th nm 8 1
  obtain ⟨_, w22, r22, rfl, -⟩ := want_fn hp th nm 2 2
  obtain ⟨_, w33, r33, rfl, -⟩ := want_fn hp th nm 3 3
  obtain ⟨_, w44, r44, rfl, -⟩ := want_fn hp th nm 4 4
  obtain ⟨_, w55, r55, rfl, d55⟩ := want_fn hp th nm 5 5
  obtain ⟨_, w77, r77, rfl, -⟩ := want_fn hp th nm 7 7
  obtain ⟨_, w66, r66, rfl, -⟩ := want_fn hp th nm 6 6
  obtain ⟨_, w88, r88, rfl, -⟩ := want_fn hp th nm 8 8
  obtain ⟨_, a66, s66, rfl, -⟩ := want_fn hp th arg 6 6
  obtain ⟨_, q0, e0, rfl⟩ := expr4_fn hp th ex (by omega)
  have tat := tat_fn p.tz p.tt p.thrs nm (by have := hp.t; omega)
  have dat := dat_fn p.dz p.dt p.decls nm (by have := hp.d; omega)
  rw [grow4] at w81 w22 w33 w44 w55 w77 w66 w88 a66 q0
  rw [xrow_def] at q0
  have hps := gset4 p
  rw [grow4] at hps
  have hw := wk_lt h
  refine th_keep T88 rfl ?_
  refine w_seg (fun e s => e = [(0, .ptr w 0 0), (3, .ptr σ.length 0 0)] ∧ s = σ ++ [.row [.int .i64 op, .int .i64 line, .str nm, .str arg, SL iz it (idx.map Xp.row), .int .i64 ex.op, .int .i64 ex.n, .str ex.nm, SL ex.z ex.t (ex.l.map Xp.row), SL bz bt (body.map Sp.row), SL ez et (els.map Sp.row)] 42 0 0]) (fun k' hk => ?_) ?_
  · simp only [go_sem]
    exact hk _ _ ⟨rfl, rfl⟩
  rintro e s ⟨rfl, rfl⟩
  refine w_seg (fun e s => ∃ n m : Nat, e = [(0, .ptr w 0 0), (3, .ptr n 0 0), (5, .ptr m 0 0), (6, .int .i64 th)] ∧ (WK s w p th uA uS uT (X.map Sp.row) (S.map fun x => [V.str x]) (T.map fun x => [V.str x]) ∧ FW w σ s) ∧ (σ.length ≤ n ∧ σ.length ≤ m) ∧ s[n]? = some (.row [.int .i64 op, .int .i64 line, .str nm, .str arg, SL iz it (idx.map Xp.row), .int .i64 ex.op, .int .i64 ex.n, .str ex.nm, SL ex.z ex.t (ex.l.map Xp.row), SL bz bt (body.map Sp.row), SL ez et (els.map Sp.row)] 42 0 0) ∧ s[m]? = some (.row [SL p.dz p.dt (p.decls.map Dp.row), SL p.tz p.tt (p.thrs.map Tp.row)] 26 0 0)) (fun k' hk => ?_) ?_
  · have hr0 := h.row
    have hr := get_app_some (l := [.row [.int .i64 op, .int .i64 line, .str nm, .str arg, SL iz it (idx.map Xp.row), .int .i64 ex.op, .int .i64 ex.n, .str ex.nm, SL ex.z ex.t (ex.l.map Xp.row), SL bz bt (body.map Sp.row), SL ez et (els.map Sp.row)] 42 0 0]) h.row
    have hc1 : Cl (σ ++ [.row [.int .i64 op, .int .i64 line, .str nm, .str arg, SL iz it (idx.map Xp.row), .int .i64 ex.op, .int .i64 ex.n, .str ex.nm, SL ex.z ex.t (ex.l.map Xp.row), SL bz bt (body.map Sp.row), SL ez et (els.map Sp.row)] 42 0 0]) := cl_row h.cl hxs
    have hc2 : Cl (σ ++ [.row [.int .i64 op, .int .i64 line, .str nm, .str arg, SL iz it (idx.map Xp.row), .int .i64 ex.op, .int .i64 ex.n, .str ex.nm, SL ex.z ex.t (ex.l.map Xp.row), SL bz bt (body.map Sp.row), SL ez et (els.map Sp.row)] 42 0 0] ++ [.row [SL p.dz p.dt (p.decls.map Dp.row), SL p.tz p.tt (p.thrs.map Tp.row)] 26 0 0]) := cl_row hc1 hps
    rw [List.append_assoc] at hc2
    refine w_drw (by kernel_rfl) ?_
    simp only [go_sem, hr]
    refine wgE (h2 := ⟨.inr ⟨rd1 hr rfl rfl, rd1 (get_app_some hr0) rfl rfl⟩, .inr ⟨rdP hr rfl (Nat.le_of_ble_eq_true rfl) rfl, rdP (get_app_some hr0) rfl (Nat.le_of_ble_eq_true rfl) rfl⟩, trivial⟩) ?_
    simp only [go_sem]
    refine wgE (h2 := ⟨.inr ⟨rd1 (get_app_some hr0) rfl rfl, rd1 (get_app_some hr0) rfl rfl⟩, .inl rfl, trivial⟩) ?_
    simp only [go_sem]
    refine hk _ _ ⟨σ.length, σ.length + 1, by first | rfl | simp, ?_, ?_, ?_, ?_⟩
    · first | exact ⟨wk_push h _ hc2, fw_push _ hw⟩ | (rw [List.append_assoc]; exact ⟨wk_push h _ hc2, fw_push _ hw⟩)
    · omega
    · simp
    · simp
  rintro e s ⟨n, m, rfl, ⟨h1, f1⟩, ⟨hn, hm⟩, k3, k5⟩
  have hr := h1.row
  refine w_seg (fun e s' => s' = s ∧ ∃ tx, e = [(0, .ptr w 0 0), (3, .ptr n 0 0), (5, .ptr m 0 0), (6, .int .i64 th), (7, .bool tx)]) (fun k' hk => ?_) ?_
  · obtain ⟨_, i1, z1, rfl⟩ := inside_th h1 (by omega) 7 7 []
    simp only [go_sem]
    refine wx_th i1 ?_
    simp only [go_sem]
    exact hk _ _ ⟨rfl, _, rfl⟩
  rintro e s' ⟨hs', tx, rfl⟩
  obtain rfl := hs'.symm
  refine w_seg (fun e s' => s' = s ∧ ∃ ao, e = [(0, .ptr w 0 0), (3, .ptr n 0 0), (5, .ptr m 0 0), (6, .int .i64 th), (7, .bool tx), (8, .bool ao)]) (fun k' hk => ?_) ?_
  · obtain ⟨_, i1, z1, rfl⟩ := inside_th h1 (by omega) 8 8 []
    simp only [go_sem]
    refine wx_th i1 ?_
    simp only [go_sem]
    exact hk _ _ ⟨rfl, _, rfl⟩
  rintro e s' ⟨hs', ao, rfl⟩
  obtain rfl := hs'.symm
  refine w_seg (fun e s' => s' = s ∧ ∃ lp, e = [(0, .ptr w 0 0), (3, .ptr n 0 0), (5, .ptr m 0 0), (6, .int .i64 th), (7, .bool tx), (8, .bool ao), (9, .bool lp)]) (fun k' hk => ?_) ?_
  · obtain ⟨_, i1, z1, rfl⟩ := inside_th h1 (by omega) 3 3 []
    simp only [go_sem]
    refine wx_th i1 ?_
    simp only [go_sem]
    exact hk _ _ ⟨rfl, _, rfl⟩
  rintro e s' ⟨hs', lp, rfl⟩
  obtain rfl := hs'.symm
  have hnf : ∀ j, σ.length ≤ j → j ∉ fp s w := fun j hj hm => by
    rw [wk_fp h1] at hm
    have g1 := wk_fp h
    simp only [List.mem_cons, List.mem_append] at hm
    rcases hm with rfl | hm | hm | hm
    · omega
    · have := gs_refs h.a j hm; omega
    · have := gs_refs h.s j hm; omega
    · have := gs_refs h.t j hm; omega
  have fin : ∀ r : Int, ∃ v, some (V.int .i64 r) = some v ∧ (okRes v = true ∧ v.refs = []) ∧ (σ.length ≤ s.length ∧ Cl s) ∧ OneR w p th uA (X.map Sp.row) S T σ v s := fun r => ⟨_, rfl, ⟨rfl, rfl⟩, ⟨f1.1, h1.cl⟩, r, rfl, _, _, S, T, h1, f1, by omega, by omega⟩
  by_cases o1 : op = 1
  · subst o1
    cases idx with
    | nil =>
      obtain ⟨_, oq, r2, rfl⟩ := or_fn r81 e0
      simp only [go_sem, Int.reduceBEq, k3, k5, hr, List.map_nil, List.length_nil]
      refine w_drw (by kernel_rfl) ?_
      simp only [go_sem, Int.reduceBEq, k3, k5, hr]
      refine wgx_fn w81 (by simp only [go_sem]) ?_
      simp only [go_sem, Int.reduceBEq, k3, k5, hr]
      refine wgx_fn q0 (by simp only [go_sem]) ?_
      simp only [go_sem, Int.reduceBEq, k3, k5, hr]
      refine wgx_fn oq (by simp only [go_sem]) ?_
      simp only [go_sem]
      exact fin _
    | cons a r =>
      have hba := bulk_mem (f := Xp.row) (l := a :: r) (x := a) (by simp)
      obtain ⟨_, q1, e1, rfl⟩ := expr4_fn hp th a (by omega)
      rw [grow4, xrow_def] at q1
      have hlr : ((r.length : Int) + 1 == 0) = false := by simp; omega
      have hlr2 : (((r.length + 1 : Nat) : Int) == 0) = false := by simp; omega
      have har := xrow_def a
      obtain ⟨_, oq, r2, rfl⟩ := or_fn e1 e0
      obtain ⟨_, oq2, r3, rfl⟩ := or_fn r22 r2
      simp only [go_sem, Int.reduceBEq, k3, k5, hr, List.map_cons, List.length_cons, List.length_map, hlr, hlr2]
      refine w_drw (by kernel_rfl) ?_
      simp only [go_sem, Int.reduceBEq, k3, k5, hr, List.map_cons, List.getElem?_cons_zero, har]
      refine wgx_fn w22 (by simp only [go_sem]) ?_
      simp only [go_sem, Int.reduceBEq, k3, k5, hr, List.map_cons, List.getElem?_cons_zero, har]
      refine wgx_fn q1 (by simp only [go_sem]) ?_
      simp only [go_sem, Int.reduceBEq, k3, k5, hr]
      refine wgx_fn q0 (by simp only [go_sem]) ?_
      simp only [go_sem, Int.reduceBEq, k3, k5, hr]
      refine wgx_fn oq (by simp only [go_sem]) ?_
      simp only [go_sem, Int.reduceBEq, k3, k5, hr]
      refine wgx_fn oq2 (by simp only [go_sem]) ?_
      simp only [go_sem]
      exact fin _
  have o1 : (op == 1) = false := by simp [o1]
  by_cases o2 : op = 2
  · subst o2
    simp only [go_sem, Int.reduceBEq, k3, k5, hr]
    refine wx_fn q0 (by simp only [go_sem]) ?_
    simp only [go_sem]
    exact fin _
  have o2 : (op == 2) = false := by simp [o2]
  by_cases o3 : op = 3
  · subst o3
    simp only [go_sem, Int.reduceBEq, k3, k5, hr]
    refine wx_fn q0 (by simp only [go_sem]) ?_
    simp only [go_sem]
    exact fin _
  have o3 : (op == 3) = false := by simp [o3]
  by_cases o4 : op = 4
  · subst o4
    cases tx
    · obtain ⟨_, i1, z1, rfl⟩ := inside_th h1 (by omega) 4 4 nm
      obtain ⟨_, nq, r1, rfl⟩ := nest_fn z1
      obtain ⟨_, oq, r2, rfl⟩ := or_fn r33 r1
      simp only [go_sem, Int.reduceBEq, k3, k5, hr]
      refine wx_fn w33 (by simp only [go_sem]) ?_
      simp only [go_sem, Int.reduceBEq, k3, k5, hr]
      refine wx_th i1 ?_
      simp only [go_sem, Int.reduceBEq, k3, k5, hr]
      refine wx_fn nq (by simp only [go_sem]) ?_
      simp only [go_sem]
      refine wx_fn oq (by simp only [go_sem]) ?_
      simp only [go_sem]
      exact fin _
    · obtain ⟨_, nq, r1, rfl⟩ := nest_fn true
      obtain ⟨_, oq, r2, rfl⟩ := or_fn r33 r1
      simp only [go_sem, Int.reduceBEq, k3, k5, hr]
      refine wx_fn w33 (by simp only [go_sem]) ?_
      simp only [go_sem, Int.reduceBEq, k3, k5, hr]
      refine wx_fn nq (by simp only [go_sem]) ?_
      simp only [go_sem]
      refine wx_fn oq (by simp only [go_sem]) ?_
      simp only [go_sem]
      exact fin _
  have o4 : (op == 4) = false := by simp [o4]
  by_cases o5 : op = 5
  · subst o5
    cases tx
    · obtain ⟨_, i1, z1, rfl⟩ := inside_th h1 (by omega) 5 6 nm
      obtain ⟨_, nq, r1, rfl⟩ := nest_fn z1
      obtain ⟨_, oq, r2, rfl⟩ := or_fn r44 r1
      simp only [go_sem, Int.reduceBEq, k3, k5, hr]
      refine wx_fn w44 (by simp only [go_sem]) ?_
      simp only [go_sem, Int.reduceBEq, k3, k5, hr]
      refine wx_th i1 ?_
      simp only [go_sem, Int.reduceBEq, k3, k5, hr]
      refine wx_fn nq (by simp only [go_sem]) ?_
      simp only [go_sem]
      refine wx_fn oq (by simp only [go_sem]) ?_
      simp only [go_sem]
      exact fin _
    · obtain ⟨_, nq, r1, rfl⟩ := nest_fn true
      obtain ⟨_, oq, r2, rfl⟩ := or_fn r44 r1
      simp only [go_sem, Int.reduceBEq, k3, k5, hr]
      refine wx_fn w44 (by simp only [go_sem]) ?_
      simp only [go_sem, Int.reduceBEq, k3, k5, hr]
      refine wx_fn nq (by simp only [go_sem]) ?_
      simp only [go_sem]
      refine wx_fn oq (by simp only [go_sem]) ?_
      simp only [go_sem]
      exact fin _
  have o5 : (op == 5) = false := by simp [o5]
  by_cases o6 : op = 6
  · subst o6
    cases tx
    · obtain ⟨_, i1, z1, rfl⟩ := inside_th h1 (by omega) 5 6 nm
      obtain ⟨_, nq, r1, rfl⟩ := nest_fn z1
      obtain ⟨_, oq, r2, rfl⟩ := or_fn r44 r1
      simp only [go_sem, Int.reduceBEq, k3, k5, hr]
      refine wx_fn w44 (by simp only [go_sem]) ?_
      simp only [go_sem, Int.reduceBEq, k3, k5, hr]
      refine wx_th i1 ?_
      simp only [go_sem, Int.reduceBEq, k3, k5, hr]
      refine wx_fn nq (by simp only [go_sem]) ?_
      simp only [go_sem]
      refine wx_fn oq (by simp only [go_sem]) ?_
      simp only [go_sem]
      exact fin _
    · obtain ⟨_, nq, r1, rfl⟩ := nest_fn true
      obtain ⟨_, oq, r2, rfl⟩ := or_fn r44 r1
      simp only [go_sem, Int.reduceBEq, k3, k5, hr]
      refine wx_fn w44 (by simp only [go_sem]) ?_
      simp only [go_sem, Int.reduceBEq, k3, k5, hr]
      refine wx_fn nq (by simp only [go_sem]) ?_
      simp only [go_sem]
      refine wx_fn oq (by simp only [go_sem]) ?_
      simp only [go_sem]
      exact fin _
  have o6 : (op == 6) = false := by simp [o6]
  by_cases o7 : op = 7
  · subst o7
    obtain ⟨_, nq, r1, rfl⟩ := nest_fn tx
    simp only [go_sem, Int.reduceBEq, k3, k5, hr]
    refine wx_fn nq (by simp only [go_sem]) ?_
    simp only [go_sem]
    exact fin _
  have o7 : (op == 7) = false := by simp [o7]
  by_cases o8 : op = 8
  · subst o8
    cases tx
    · obtain ⟨_, nq, r1, rfl⟩ := nest_fn ao
      simp only [go_sem, Int.reduceBEq, k3, k5, hr]
      refine wx_fn nq (by simp only [go_sem]) ?_
      simp only [go_sem]
      exact fin _
    · obtain ⟨_, nq, r1, rfl⟩ := nest_fn true
      simp only [go_sem, Int.reduceBEq, k3, k5, hr]
      refine wx_fn nq (by simp only [go_sem]) ?_
      simp only [go_sem]
      exact fin _
  have o8 : (op == 8) = false := by simp [o8]
  by_cases o9 : op = 9
  · subst o9
    by_cases z5 : r55 = 0
    rotate_left
    · have y5 : (r55 == 0) = false := by simp [z5]
      simp only [go_sem, Int.reduceBEq, k3, k5, hr]
      refine wx_fn w55 (by simp only [go_sem]) ?_
      simp only [go_sem, Int.reduceBEq, k3, k5, hr, y5, bne, Bool.not_false]
      exact fin _
    have y5 : (r55 == 0) = true := by simp [z5]
    obtain ⟨i, d, di, hd, hil⟩ := fix_get (d55 rfl rfl z5)
    rw [di] at dat
    have hdr : d.row = [.int .i64 d.kind, .int .i64 d.line, .str d.nm, .int .i64 d.size, .int .i64 d.init, .str d.on] := rfl
    obtain ⟨_, i1, z1, rfl⟩ := inside_th h1 (by omega) 4 4 d.on
    simp only [go_sem, Int.reduceBEq, k3, k5, hr]
    refine wx_fn w55 (by simp only [go_sem]) ?_
    simp only [go_sem, Int.reduceBEq, k3, k5, hr, y5, bne, Bool.not_true]
    refine w_drw (by kernel_rfl) ?_
    simp only [go_sem, Int.reduceBEq, k3, k5, hr]
    refine wgx_fn dat (by simp only [go_sem]) ?_
    simp only [go_sem, Int.reduceBEq, k3, k5, hr, List.getElem?_map, hd, hdr]
    refine wgx_th i1 (by repeat (first | exact trivial | refine ⟨.inl (by rfl), ?_⟩ | refine ⟨by rfl, ?_⟩ | refine ⟨.inr ⟨by rfl, by rfl⟩, ?_⟩)) (by repeat (first | exact trivial | refine ⟨.inl (by rfl), ?_⟩ | refine ⟨by rfl, ?_⟩ | refine ⟨.inr ⟨by rfl, by rfl⟩, ?_⟩ | refine ⟨.inr ⟨by (first | exact rdI rfl rfl | exact rd1e rfl ⟨_, _, by assumption, by rfl⟩ | exact rd1e rfl ⟨_, _, get_app_some (by assumption), by rfl⟩ | exact rdN (by assumption) rfl (by rfl) | exact rdN (get_app_some (by assumption)) rfl (by rfl)), by (first | exact rdI rfl rfl | exact rd1e rfl ⟨_, _, by assumption, by rfl⟩ | exact rd1e rfl ⟨_, _, get_app_some (by assumption), by rfl⟩ | exact rdN (by assumption) rfl (by rfl) | exact rdN (get_app_some (by assumption)) rfl (by rfl))⟩, ?_⟩)) ?_
    simp only [go_sem]
    cases tx <;> cases z1 <;> cases ao
    all_goals
      simp only [go_sem, Int.reduceBEq, k3, k5, hr, Bool.not_true, Bool.not_false]
      first
        | exact (nest_fn true).elim fun _ ⟨nq, r1, er⟩ => by subst er; exact wx_fn nq (by simp only [go_sem]) (by simp only [go_sem]; exact fin _)
        | exact (nest_fn false).elim fun _ ⟨nq, r1, er⟩ => by subst er; exact wx_fn nq (by simp only [go_sem]) (by simp only [go_sem]; exact fin _)
  have o9 : (op == 9) = false := by simp [o9]
  by_cases o10 : op = 10
  · subst o10
    by_cases z5 : r55 = 0
    rotate_left
    · have y5 : (r55 == 0) = false := by simp [z5]
      simp only [go_sem, Int.reduceBEq, k3, k5, hr]
      refine wx_fn w55 (by simp only [go_sem]) ?_
      simp only [go_sem, Int.reduceBEq, k3, k5, hr, y5, bne, Bool.not_false]
      exact fin _
    have y5 : (r55 == 0) = true := by simp [z5]
    obtain ⟨i, d, di, hd, hil⟩ := fix_get (d55 rfl rfl z5)
    rw [di] at dat
    have hdr : d.row = [.int .i64 d.kind, .int .i64 d.line, .str d.nm, .int .i64 d.size, .int .i64 d.init, .str d.on] := rfl
    obtain ⟨_, i1, z1, rfl⟩ := inside_th h1 (by omega) 4 4 d.on
    simp only [go_sem, Int.reduceBEq, k3, k5, hr]
    refine wx_fn w55 (by simp only [go_sem]) ?_
    simp only [go_sem, Int.reduceBEq, k3, k5, hr, y5, bne, Bool.not_true]
    refine w_drw (by kernel_rfl) ?_
    simp only [go_sem, Int.reduceBEq, k3, k5, hr]
    refine wgx_fn dat (by simp only [go_sem]) ?_
    simp only [go_sem, Int.reduceBEq, k3, k5, hr, List.getElem?_map, hd, hdr]
    refine wgx_th i1 (by repeat (first | exact trivial | refine ⟨.inl (by rfl), ?_⟩ | refine ⟨by rfl, ?_⟩ | refine ⟨.inr ⟨by rfl, by rfl⟩, ?_⟩)) (by repeat (first | exact trivial | refine ⟨.inl (by rfl), ?_⟩ | refine ⟨by rfl, ?_⟩ | refine ⟨.inr ⟨by rfl, by rfl⟩, ?_⟩ | refine ⟨.inr ⟨by (first | exact rdI rfl rfl | exact rd1e rfl ⟨_, _, by assumption, by rfl⟩ | exact rd1e rfl ⟨_, _, get_app_some (by assumption), by rfl⟩ | exact rdN (by assumption) rfl (by rfl) | exact rdN (get_app_some (by assumption)) rfl (by rfl)), by (first | exact rdI rfl rfl | exact rd1e rfl ⟨_, _, by assumption, by rfl⟩ | exact rd1e rfl ⟨_, _, get_app_some (by assumption), by rfl⟩ | exact rdN (by assumption) rfl (by rfl) | exact rdN (get_app_some (by assumption)) rfl (by rfl))⟩, ?_⟩)) ?_
    simp only [go_sem]
    cases tx <;> cases z1 <;> cases ao
    all_goals
      simp only [go_sem, Int.reduceBEq, k3, k5, hr, Bool.not_true, Bool.not_false]
      first
        | exact (nest_fn true).elim fun _ ⟨nq, r1, er⟩ => by subst er; exact wx_fn nq (by simp only [go_sem]) (by simp only [go_sem]; exact fin _)
        | exact (nest_fn false).elim fun _ ⟨nq, r1, er⟩ => by subst er; exact wx_fn nq (by simp only [go_sem]) (by simp only [go_sem]; exact fin _)
  have o10 : (op == 10) = false := by simp [o10]
  by_cases o11 : op = 11
  · subst o11
    by_cases z5 : r55 = 0
    rotate_left
    · have y5 : (r55 == 0) = false := by simp [z5]
      simp only [go_sem, Int.reduceBEq, k3, k5, hr]
      refine wx_fn w55 (by simp only [go_sem]) ?_
      simp only [go_sem, Int.reduceBEq, k3, k5, hr, y5, bne, Bool.not_false]
      exact fin _
    have y5 : (r55 == 0) = true := by simp [z5]
    obtain ⟨i, d, di, hd, hil⟩ := fix_get (d55 rfl rfl z5)
    rw [di] at dat
    have hdr : d.row = [.int .i64 d.kind, .int .i64 d.line, .str d.nm, .int .i64 d.size, .int .i64 d.init, .str d.on] := rfl
    obtain ⟨_, i1, z1, rfl⟩ := inside_th h1 (by omega) 4 4 d.on
    simp only [go_sem, Int.reduceBEq, k3, k5, hr]
    refine wx_fn w55 (by simp only [go_sem]) ?_
    simp only [go_sem, Int.reduceBEq, k3, k5, hr, y5, bne, Bool.not_true]
    refine w_drw (by kernel_rfl) ?_
    simp only [go_sem, Int.reduceBEq, k3, k5, hr]
    refine wgx_fn dat (by simp only [go_sem]) ?_
    simp only [go_sem, Int.reduceBEq, k3, k5, hr, List.getElem?_map, hd, hdr]
    refine wgx_th i1 (by repeat (first | exact trivial | refine ⟨.inl (by rfl), ?_⟩ | refine ⟨by rfl, ?_⟩ | refine ⟨.inr ⟨by rfl, by rfl⟩, ?_⟩)) (by repeat (first | exact trivial | refine ⟨.inl (by rfl), ?_⟩ | refine ⟨by rfl, ?_⟩ | refine ⟨.inr ⟨by rfl, by rfl⟩, ?_⟩ | refine ⟨.inr ⟨by (first | exact rdI rfl rfl | exact rd1e rfl ⟨_, _, by assumption, by rfl⟩ | exact rd1e rfl ⟨_, _, get_app_some (by assumption), by rfl⟩ | exact rdN (by assumption) rfl (by rfl) | exact rdN (get_app_some (by assumption)) rfl (by rfl)), by (first | exact rdI rfl rfl | exact rd1e rfl ⟨_, _, by assumption, by rfl⟩ | exact rd1e rfl ⟨_, _, get_app_some (by assumption), by rfl⟩ | exact rdN (by assumption) rfl (by rfl) | exact rdN (get_app_some (by assumption)) rfl (by rfl))⟩, ?_⟩)) ?_
    simp only [go_sem]
    cases tx <;> cases z1 <;> cases ao
    all_goals
      simp only [go_sem, Int.reduceBEq, k3, k5, hr, Bool.not_true, Bool.not_false]
      first
        | exact (nest_fn true).elim fun _ ⟨nq, r1, er⟩ => by subst er; exact wx_fn nq (by simp only [go_sem]) (by simp only [go_sem]; exact fin _)
        | exact (nest_fn false).elim fun _ ⟨nq, r1, er⟩ => by subst er; exact wx_fn nq (by simp only [go_sem]) (by simp only [go_sem]; exact fin _)
  have o11 : (op == 11) = false := by simp [o11]
  by_cases o12 : op = 12
  · subst o12
    by_cases z7 : r77 = 0
    rotate_left
    · have y7 : (r77 == 0) = false := by simp [z7]
      simp only [go_sem, Int.reduceBEq, k3, k5, hr]
      refine wx_fn w77 (by simp only [go_sem]) ?_
      simp only [go_sem, Int.reduceBEq, k3, k5, hr, y7, bne, Bool.not_false]
      exact fin _
    have y7 : (r77 == 0) = true := by simp [z7]
    simp only [go_sem, Int.reduceBEq, k3, k5, hr]
    refine wx_fn w77 (by simp only [go_sem]) ?_
    simp only [go_sem, Int.reduceBEq, k3, k5, hr, y7, bne, Bool.not_true]
    refine wx_fn tat (by simp only [go_sem]) ?_
    by_cases bad : tx = true ∨ ao = true ∨ lp = true ∨ fIx (fun d : Tp => d.nm == nm) p.thrs = th ∨ fIx (fun d : Tp => d.nm == nm) p.thrs = 0
    · by_cases b1 : fIx (fun d : Tp => d.nm == nm) p.thrs = th <;> by_cases b2 : fIx (fun d : Tp => d.nm == nm) p.thrs = 0 <;> cases tx <;> cases ao <;> cases lp
      all_goals first | (exfalso; simp [b1, b2] at bad; done) | skip
      all_goals
        first | have y1 : (fIx (fun d : Tp => d.nm == nm) p.thrs == th) = true := by simp [b1]; done | have y1 : (fIx (fun d : Tp => d.nm == nm) p.thrs == th) = false := by simp [b1]; done
        first | have y2 : (fIx (fun d : Tp => d.nm == nm) p.thrs == 0) = true := by simp [b2]; done | have y2 : (fIx (fun d : Tp => d.nm == nm) p.thrs == 0) = false := by simp [b2]; done
        simp only [go_sem, Int.reduceBEq, k3, k5, hr, y1, y2]
        exact fin _
    simp only [not_or, Bool.not_eq_true] at bad
    obtain ⟨rfl, rfl, rfl, b1, b2⟩ := bad
    have y1 : (fIx (fun d : Tp => d.nm == nm) p.thrs == th) = false := by simp [b1]
    have y2 : (fIx (fun d : Tp => d.nm == nm) p.thrs == 0) = false := by simp [b2]
    simp only [go_sem, Int.reduceBEq, k3, k5, hr, y1, y2]
    obtain ⟨z, hov⟩ := ov_gs h1.s
    have hat := at4_fn z 0 S nm (by omega)
    refine w_drw (by kernel_rfl) ?_
    simp only [go_sem, Int.reduceBEq, k3, k5, hr]
    refine wgx_fo (.cons hov (.cons (ov_set rfl) .nil)) hat rfl ?_
    by_cases c3 : 0 ≤ fIx (· == nm) S
    · have f3 : (0 ≤ fIx (· == nm) S) = True := eq_true c3
      simp only [go_sem, Int.reduceBEq, k3, k5, hr, f3, ge_iff_le]
      exact fin _
    have f3 : (0 ≤ fIx (· == nm) S) = False := eq_false c3
    simp only [go_sem, Int.reduceBEq, k3, k5, hr, f3, ge_iff_le]
    obtain ⟨u', s2, ha, hcell, r2, h2, f2⟩ := wk_s h1 nm (by simp; omega)
    obtain ⟨hcc, hca⟩ := cell_c4 hcell
    refine w_drw (by kernel_rfl) ?_
    simp only [go_sem, Int.reduceBEq, k3, k5, hr, ha]
    refine wgE ?_
    simp only [go_sem, Int.reduceBEq, k3, k5, hr, r2, hcc, hca]
    refine wgE ?_
    simp only [go_sem]
    exact ⟨_, rfl, ⟨rfl, rfl⟩, ⟨Nat.le_trans f1.1 f2.1, h2.cl⟩, _, rfl, _, _, S ++ [nm], T, by rw [List.map_append]; exact h2, fw_trans f1 f2, by simp, by omega⟩
  have o12 : (op == 12) = false := by simp [o12]
  by_cases o13 : op = 13
  · subst o13
    cases tx
    rotate_left
    · obtain ⟨_, nq, r1, rfl⟩ := nest_fn true
      obtain ⟨_, oq, r2, rfl⟩ := or_fn r77 r1
      simp only [go_sem, Int.reduceBEq, k3, k5, hr]
      refine wx_fn w77 (by simp only [go_sem]) ?_
      simp only [go_sem, Int.reduceBEq, k3, k5, hr]
      refine wx_fn nq (by simp only [go_sem]) ?_
      simp only [go_sem]
      refine wx_fn oq (by simp only [go_sem]) ?_
      simp only [go_sem]
      exact fin _
    cases ao
    rotate_left
    · obtain ⟨_, nq, r1, rfl⟩ := nest_fn true
      obtain ⟨_, oq, r2, rfl⟩ := or_fn r77 r1
      simp only [go_sem, Int.reduceBEq, k3, k5, hr]
      refine wx_fn w77 (by simp only [go_sem]) ?_
      simp only [go_sem, Int.reduceBEq, k3, k5, hr]
      refine wx_fn nq (by simp only [go_sem]) ?_
      simp only [go_sem]
      refine wx_fn oq (by simp only [go_sem]) ?_
      simp only [go_sem]
      exact fin _
    obtain ⟨_, nq, r1, rfl⟩ := nest_fn (fIx (fun d : Tp => d.nm == nm) p.thrs == th)
    obtain ⟨_, oq, r2, rfl⟩ := or_fn r77 r1
    simp only [go_sem, Int.reduceBEq, k3, k5, hr]
    refine wx_fn w77 (by simp only [go_sem]) ?_
    simp only [go_sem, Int.reduceBEq, k3, k5, hr]
    refine wx_fn tat (by simp only [go_sem]) ?_
    simp only [go_sem, Int.reduceBEq, k3, k5, hr]
    refine wx_fn nq (by simp only [go_sem]) ?_
    simp only [go_sem]
    refine wx_fn oq (by simp only [go_sem]) ?_
    simp only [go_sem]
    exact fin _
  have o13 : (op == 13) = false := by simp [o13]
  by_cases o14 : op = 14
  · subst o14
    cases tx
    · obtain ⟨_, nq, r1, rfl⟩ := nest_fn lp
      obtain ⟨_, oq, r2, rfl⟩ := or_fn r66 r1
      simp only [go_sem, Int.reduceBEq, k3, k5, hr]
      refine wx_fn w66 (by simp only [go_sem]) ?_
      simp only [go_sem, Int.reduceBEq, k3, k5, hr]
      refine wx_fn nq (by simp only [go_sem]) ?_
      simp only [go_sem]
      refine wx_fn oq (by simp only [go_sem]) ?_
      cases y : (r2 == 0)
      · simp only [go_sem, Int.reduceBEq, k3, k5, hr, y]
        refine w_drw (by kernel_rfl) ?_
        simp only [go_sem, Int.reduceBEq, k3, k5, hr, y]
        obtain ⟨u', s2, ha, hcell, r2', h2, f2⟩ := wk_t h1 nm (by simp; omega)
        obtain ⟨hcc, hca⟩ := cell_c4 hcell
        obtain ⟨_, oq', r3, rfl⟩ := or_fn r2 e0
        have k3' : (s2.set w (.row [SL p.dz p.dt (p.decls.map Dp.row), SL p.tz p.tt (p.thrs.map Tp.row), .int .i64 th, uA, uS, u'] 112 0 0))[n]? = some (.row [.int .i64 14, .int .i64 line, .str nm, .str arg, SL iz it (idx.map Xp.row), .int .i64 ex.op, .int .i64 ex.n, .str ex.nm, SL ex.z ex.t (ex.l.map Xp.row), SL bz bt (body.map Sp.row), SL ez et (els.map Sp.row)] 42 0 0) := by rw [f2.2.1 n (List.getElem?_eq_some_iff.1 k3).1 (hnf n hn)]; exact k3
        have k5' : (s2.set w (.row [SL p.dz p.dt (p.decls.map Dp.row), SL p.tz p.tt (p.thrs.map Tp.row), .int .i64 th, uA, uS, u'] 112 0 0))[m]? = some (.row [SL p.dz p.dt (p.decls.map Dp.row), SL p.tz p.tt (p.thrs.map Tp.row)] 26 0 0) := by rw [f2.2.1 m (List.getElem?_eq_some_iff.1 k5).1 (hnf m hm)]; exact k5
        refine w_drw (by kernel_rfl) ?_
        simp only [go_sem, Int.reduceBEq, k3, k5, hr, ha]
        refine wgE ?_
        simp only [go_sem, Int.reduceBEq, k3, k5, hr, r2', hcc, hca]
        refine wgE ?_
        simp only [go_sem, k3', k5']
        refine wx_fn q0 (by simp only [go_sem]) ?_
        simp only [go_sem]
        refine wx_fn oq' (by simp only [go_sem]) ?_
        simp only [go_sem]
        exact ⟨_, rfl, ⟨rfl, rfl⟩, ⟨Nat.le_trans f1.1 f2.1, h2.cl⟩, _, rfl, _, _, S, T ++ [nm], by rw [List.map_append]; exact h2, fw_trans f1 f2, by omega, by simp⟩
      · obtain ⟨z, hov⟩ := ov_gs h1.t
        have hat := at4_fn z 0 T nm (by omega)
        simp only [go_sem]
        refine w_drw (by kernel_rfl) ?_
        simp only [go_sem, Int.reduceBEq, k3, k5, hr, y]
        refine wgx_fo (.cons hov (.cons (ov_set rfl) .nil)) hat rfl ?_
        by_cases c3 : 0 ≤ fIx (· == nm) T
        · have f3 : (0 ≤ fIx (· == nm) T) = True := eq_true c3
          simp only [go_sem, Int.reduceBEq, k3, k5, hr, f3, ge_iff_le]
          obtain ⟨u', s2, ha, hcell, r2', h2, f2⟩ := wk_t h1 nm (by simp; omega)
          obtain ⟨hcc, hca⟩ := cell_c4 hcell
          obtain ⟨_, oq', r3, rfl⟩ := or_fn 8 e0
          have k3' : (s2.set w (.row [SL p.dz p.dt (p.decls.map Dp.row), SL p.tz p.tt (p.thrs.map Tp.row), .int .i64 th, uA, uS, u'] 112 0 0))[n]? = some (.row [.int .i64 14, .int .i64 line, .str nm, .str arg, SL iz it (idx.map Xp.row), .int .i64 ex.op, .int .i64 ex.n, .str ex.nm, SL ex.z ex.t (ex.l.map Xp.row), SL bz bt (body.map Sp.row), SL ez et (els.map Sp.row)] 42 0 0) := by rw [f2.2.1 n (List.getElem?_eq_some_iff.1 k3).1 (hnf n hn)]; exact k3
          have k5' : (s2.set w (.row [SL p.dz p.dt (p.decls.map Dp.row), SL p.tz p.tt (p.thrs.map Tp.row), .int .i64 th, uA, uS, u'] 112 0 0))[m]? = some (.row [SL p.dz p.dt (p.decls.map Dp.row), SL p.tz p.tt (p.thrs.map Tp.row)] 26 0 0) := by rw [f2.2.1 m (List.getElem?_eq_some_iff.1 k5).1 (hnf m hm)]; exact k5
          refine w_drw (by kernel_rfl) ?_
          simp only [go_sem, Int.reduceBEq, k3, k5, hr, ha]
          refine wgE ?_
          simp only [go_sem, Int.reduceBEq, k3, k5, hr, r2', hcc, hca]
          refine wgE ?_
          simp only [go_sem, k3', k5']
          refine wx_fn q0 (by simp only [go_sem]) ?_
          simp only [go_sem]
          refine wx_fn oq' (by simp only [go_sem]) ?_
          simp only [go_sem]
          exact ⟨_, rfl, ⟨rfl, rfl⟩, ⟨Nat.le_trans f1.1 f2.1, h2.cl⟩, _, rfl, _, _, S, T ++ [nm], by rw [List.map_append]; exact h2, fw_trans f1 f2, by omega, by simp⟩
        · have f3 : (0 ≤ fIx (· == nm) T) = False := eq_false c3
          simp only [go_sem, Int.reduceBEq, k3, k5, hr, f3, ge_iff_le]
          obtain ⟨u', s2, ha, hcell, r2', h2, f2⟩ := wk_t h1 nm (by simp; omega)
          obtain ⟨hcc, hca⟩ := cell_c4 hcell
          obtain ⟨_, oq', r3, rfl⟩ := or_fn r2 e0
          have k3' : (s2.set w (.row [SL p.dz p.dt (p.decls.map Dp.row), SL p.tz p.tt (p.thrs.map Tp.row), .int .i64 th, uA, uS, u'] 112 0 0))[n]? = some (.row [.int .i64 14, .int .i64 line, .str nm, .str arg, SL iz it (idx.map Xp.row), .int .i64 ex.op, .int .i64 ex.n, .str ex.nm, SL ex.z ex.t (ex.l.map Xp.row), SL bz bt (body.map Sp.row), SL ez et (els.map Sp.row)] 42 0 0) := by rw [f2.2.1 n (List.getElem?_eq_some_iff.1 k3).1 (hnf n hn)]; exact k3
          have k5' : (s2.set w (.row [SL p.dz p.dt (p.decls.map Dp.row), SL p.tz p.tt (p.thrs.map Tp.row), .int .i64 th, uA, uS, u'] 112 0 0))[m]? = some (.row [SL p.dz p.dt (p.decls.map Dp.row), SL p.tz p.tt (p.thrs.map Tp.row)] 26 0 0) := by rw [f2.2.1 m (List.getElem?_eq_some_iff.1 k5).1 (hnf m hm)]; exact k5
          refine w_drw (by kernel_rfl) ?_
          simp only [go_sem, Int.reduceBEq, k3, k5, hr, ha]
          refine wgE ?_
          simp only [go_sem, Int.reduceBEq, k3, k5, hr, r2', hcc, hca]
          refine wgE ?_
          simp only [go_sem, k3', k5']
          refine wx_fn q0 (by simp only [go_sem]) ?_
          simp only [go_sem]
          refine wx_fn oq' (by simp only [go_sem]) ?_
          simp only [go_sem]
          exact ⟨_, rfl, ⟨rfl, rfl⟩, ⟨Nat.le_trans f1.1 f2.1, h2.cl⟩, _, rfl, _, _, S, T ++ [nm], by rw [List.map_append]; exact h2, fw_trans f1 f2, by omega, by simp⟩
    · obtain ⟨_, nq, r1, rfl⟩ := nest_fn true
      obtain ⟨_, oq, r2, rfl⟩ := or_fn r66 r1
      simp only [go_sem, Int.reduceBEq, k3, k5, hr]
      refine wx_fn w66 (by simp only [go_sem]) ?_
      simp only [go_sem, Int.reduceBEq, k3, k5, hr]
      refine wx_fn nq (by simp only [go_sem]) ?_
      simp only [go_sem]
      refine wx_fn oq (by simp only [go_sem]) ?_
      cases y : (r2 == 0)
      · simp only [go_sem, Int.reduceBEq, k3, k5, hr, y]
        refine w_drw (by kernel_rfl) ?_
        simp only [go_sem, Int.reduceBEq, k3, k5, hr, y]
        obtain ⟨u', s2, ha, hcell, r2', h2, f2⟩ := wk_t h1 nm (by simp; omega)
        obtain ⟨hcc, hca⟩ := cell_c4 hcell
        obtain ⟨_, oq', r3, rfl⟩ := or_fn r2 e0
        have k3' : (s2.set w (.row [SL p.dz p.dt (p.decls.map Dp.row), SL p.tz p.tt (p.thrs.map Tp.row), .int .i64 th, uA, uS, u'] 112 0 0))[n]? = some (.row [.int .i64 14, .int .i64 line, .str nm, .str arg, SL iz it (idx.map Xp.row), .int .i64 ex.op, .int .i64 ex.n, .str ex.nm, SL ex.z ex.t (ex.l.map Xp.row), SL bz bt (body.map Sp.row), SL ez et (els.map Sp.row)] 42 0 0) := by rw [f2.2.1 n (List.getElem?_eq_some_iff.1 k3).1 (hnf n hn)]; exact k3
        have k5' : (s2.set w (.row [SL p.dz p.dt (p.decls.map Dp.row), SL p.tz p.tt (p.thrs.map Tp.row), .int .i64 th, uA, uS, u'] 112 0 0))[m]? = some (.row [SL p.dz p.dt (p.decls.map Dp.row), SL p.tz p.tt (p.thrs.map Tp.row)] 26 0 0) := by rw [f2.2.1 m (List.getElem?_eq_some_iff.1 k5).1 (hnf m hm)]; exact k5
        refine w_drw (by kernel_rfl) ?_
        simp only [go_sem, Int.reduceBEq, k3, k5, hr, ha]
        refine wgE ?_
        simp only [go_sem, Int.reduceBEq, k3, k5, hr, r2', hcc, hca]
        refine wgE ?_
        simp only [go_sem, k3', k5']
        refine wx_fn q0 (by simp only [go_sem]) ?_
        simp only [go_sem]
        refine wx_fn oq' (by simp only [go_sem]) ?_
        simp only [go_sem]
        exact ⟨_, rfl, ⟨rfl, rfl⟩, ⟨Nat.le_trans f1.1 f2.1, h2.cl⟩, _, rfl, _, _, S, T ++ [nm], by rw [List.map_append]; exact h2, fw_trans f1 f2, by omega, by simp⟩
      · obtain ⟨z, hov⟩ := ov_gs h1.t
        have hat := at4_fn z 0 T nm (by omega)
        simp only [go_sem]
        refine w_drw (by kernel_rfl) ?_
        simp only [go_sem, Int.reduceBEq, k3, k5, hr, y]
        refine wgx_fo (.cons hov (.cons (ov_set rfl) .nil)) hat rfl ?_
        by_cases c3 : 0 ≤ fIx (· == nm) T
        · have f3 : (0 ≤ fIx (· == nm) T) = True := eq_true c3
          simp only [go_sem, Int.reduceBEq, k3, k5, hr, f3, ge_iff_le]
          obtain ⟨u', s2, ha, hcell, r2', h2, f2⟩ := wk_t h1 nm (by simp; omega)
          obtain ⟨hcc, hca⟩ := cell_c4 hcell
          obtain ⟨_, oq', r3, rfl⟩ := or_fn 8 e0
          have k3' : (s2.set w (.row [SL p.dz p.dt (p.decls.map Dp.row), SL p.tz p.tt (p.thrs.map Tp.row), .int .i64 th, uA, uS, u'] 112 0 0))[n]? = some (.row [.int .i64 14, .int .i64 line, .str nm, .str arg, SL iz it (idx.map Xp.row), .int .i64 ex.op, .int .i64 ex.n, .str ex.nm, SL ex.z ex.t (ex.l.map Xp.row), SL bz bt (body.map Sp.row), SL ez et (els.map Sp.row)] 42 0 0) := by rw [f2.2.1 n (List.getElem?_eq_some_iff.1 k3).1 (hnf n hn)]; exact k3
          have k5' : (s2.set w (.row [SL p.dz p.dt (p.decls.map Dp.row), SL p.tz p.tt (p.thrs.map Tp.row), .int .i64 th, uA, uS, u'] 112 0 0))[m]? = some (.row [SL p.dz p.dt (p.decls.map Dp.row), SL p.tz p.tt (p.thrs.map Tp.row)] 26 0 0) := by rw [f2.2.1 m (List.getElem?_eq_some_iff.1 k5).1 (hnf m hm)]; exact k5
          refine w_drw (by kernel_rfl) ?_
          simp only [go_sem, Int.reduceBEq, k3, k5, hr, ha]
          refine wgE ?_
          simp only [go_sem, Int.reduceBEq, k3, k5, hr, r2', hcc, hca]
          refine wgE ?_
          simp only [go_sem, k3', k5']
          refine wx_fn q0 (by simp only [go_sem]) ?_
          simp only [go_sem]
          refine wx_fn oq' (by simp only [go_sem]) ?_
          simp only [go_sem]
          exact ⟨_, rfl, ⟨rfl, rfl⟩, ⟨Nat.le_trans f1.1 f2.1, h2.cl⟩, _, rfl, _, _, S, T ++ [nm], by rw [List.map_append]; exact h2, fw_trans f1 f2, by omega, by simp⟩
        · have f3 : (0 ≤ fIx (· == nm) T) = False := eq_false c3
          simp only [go_sem, Int.reduceBEq, k3, k5, hr, f3, ge_iff_le]
          obtain ⟨u', s2, ha, hcell, r2', h2, f2⟩ := wk_t h1 nm (by simp; omega)
          obtain ⟨hcc, hca⟩ := cell_c4 hcell
          obtain ⟨_, oq', r3, rfl⟩ := or_fn r2 e0
          have k3' : (s2.set w (.row [SL p.dz p.dt (p.decls.map Dp.row), SL p.tz p.tt (p.thrs.map Tp.row), .int .i64 th, uA, uS, u'] 112 0 0))[n]? = some (.row [.int .i64 14, .int .i64 line, .str nm, .str arg, SL iz it (idx.map Xp.row), .int .i64 ex.op, .int .i64 ex.n, .str ex.nm, SL ex.z ex.t (ex.l.map Xp.row), SL bz bt (body.map Sp.row), SL ez et (els.map Sp.row)] 42 0 0) := by rw [f2.2.1 n (List.getElem?_eq_some_iff.1 k3).1 (hnf n hn)]; exact k3
          have k5' : (s2.set w (.row [SL p.dz p.dt (p.decls.map Dp.row), SL p.tz p.tt (p.thrs.map Tp.row), .int .i64 th, uA, uS, u'] 112 0 0))[m]? = some (.row [SL p.dz p.dt (p.decls.map Dp.row), SL p.tz p.tt (p.thrs.map Tp.row)] 26 0 0) := by rw [f2.2.1 m (List.getElem?_eq_some_iff.1 k5).1 (hnf m hm)]; exact k5
          refine w_drw (by kernel_rfl) ?_
          simp only [go_sem, Int.reduceBEq, k3, k5, hr, ha]
          refine wgE ?_
          simp only [go_sem, Int.reduceBEq, k3, k5, hr, r2', hcc, hca]
          refine wgE ?_
          simp only [go_sem, k3', k5']
          refine wx_fn q0 (by simp only [go_sem]) ?_
          simp only [go_sem]
          refine wx_fn oq' (by simp only [go_sem]) ?_
          simp only [go_sem]
          exact ⟨_, rfl, ⟨rfl, rfl⟩, ⟨Nat.le_trans f1.1 f2.1, h2.cl⟩, _, rfl, _, _, S, T ++ [nm], by rw [List.map_append]; exact h2, fw_trans f1 f2, by omega, by simp⟩
  have o14 : (op == 14) = false := by simp [o14]
  obtain ⟨_, nq, r1, rfl⟩ := nest_fn tx
  obtain ⟨_, oq, r2, rfl⟩ := or_fn s66 r1
  obtain ⟨_, oq2, r3, rfl⟩ := or_fn r88 r2
  simp only [go_sem, Int.reduceBEq, k3, k5, hr, o1, o2, o3, o4, o5, o6, o7, o8, o9, o10, o11, o12, o13, o14]
  refine w_drw (by kernel_rfl) ?_
  simp only [go_sem, Int.reduceBEq, k3, k5, hr]
  refine wgx_fn w88 (by simp only [go_sem]) ?_
  simp only [go_sem, Int.reduceBEq, k3, k5, hr]
  refine wgx_fn a66 (by simp only [go_sem]) ?_
  simp only [go_sem, Int.reduceBEq, k3, k5, hr]
  refine wgx_fn nq (by simp only [go_sem]) ?_
  simp only [go_sem, Int.reduceBEq, k3, k5, hr]
  refine wgx_fn oq (by simp only [go_sem]) ?_
  simp only [go_sem, Int.reduceBEq, k3, k5, hr]
  refine wgx_fn oq2 (by simp only [go_sem]) ?_
  simp only [go_sem]
  exact fin _
end Go.Proofs.YtlehfgdhebapeaaDoor.KM
