/- Walks: statements as the static rules see them. -/
import Derived.Test.YtlehfgdhebapeaaDoorId
set_option linter.all false
namespace Go.Proofs.YtlehfgdhebapeaaDoor.KM
open Go
theorem sto_of {σ τ : St} {n i g off : Nat} {v : V} (h : storeV σ n (.ptr i g off) v = some τ) : sto2 σ[i]? σ n i g off v = some (.und, τ) := by
  rw [← sto_p, stoV, h]
  rfl
/-- a statement more around: its place is made, then written -/
theorem wk_a {σ : St} {w : Nat} {p : Gp} {th : Int} {uA uS uT : V} {X : List Sp} {S T : List (List V)} (h : WK σ w p th uA uS uT (X.map Sp.row) S T) (x : Sp) (hb : X.length ≤ 1000) :
    ∃ u' s3 j g Y, appV 176 (11, 42) uA (.lst 1 [[.int .i64 0, .int .i64 0, .str [], .str [], .nils, .int .i64 0, .int .i64 0, .str [], .nils, .nils, .nils]]) σ = some (u', s3) ∧ u'.cellB = true ∧ u' = .sl j g 0 (X.length + 1) 11 true ∧ s3[w]? = some (.row [SL p.dz p.dt (p.decls.map Dp.row), SL p.tz p.tt (p.thrs.map Tp.row), .int .i64 th, uA, uS, uT] 112 0 0) ∧
      storeV s3 11 (.ptr j g (0 + X.length * 11)) (.agg x.row) = some (s3.set j Y) ∧ (s3.set j Y)[w]? = some (.row [SL p.dz p.dt (p.decls.map Dp.row), SL p.tz p.tt (p.thrs.map Tp.row), .int .i64 th, uA, uS, uT] 112 0 0) ∧
      (∀ W', storeV (s3.set w W') 11 (.ptr j g (0 + X.length * 11)) (.agg x.row) = some ((s3.set w W').set j Y) ∧ (s3.set w W').set j Y = (s3.set j Y).set w W') ∧
      WK ((s3.set j Y).set w (.row [SL p.dz p.dt (p.decls.map Dp.row), SL p.tz p.tt (p.thrs.map Tp.row), .int .i64 th, u', uS, uT] 112 0 0)) w p th u' uS uT ((X ++ [x]).map Sp.row) S T ∧ FW w σ ((s3.set j Y).set w (.row [SL p.dz p.dt (p.decls.map Dp.row), SL p.tz p.tt (p.thrs.map Tp.row), .int .i64 th, u', uS, uT] 112 0 0)) ∧ (∀ i, i < σ.length → i ∉ fp σ w → s3[i]? = σ[i]? ∧ (s3.set j Y)[i]? = σ[i]?) := by
  have hw := wk_lt h
  have n1 : (X.map Sp.row).length = X.length := List.length_map ..
  obtain ⟨u', s3, e1, g1, hl, hk, hr, hc⟩ := gs_push (bytes := 176) (row := [.int .i64 0, .int .i64 0, .str [], .str [], .nils, .int .i64 0, .int .i64 0, .str [], .nils, .nils, .nils]) h.a (by omega) rfl rfl (by omega)
  obtain ⟨j, g, cs', hu, hj, hput, hcr⟩ := gs_put (row := x.row) g1 (srow_len x) (sset x)
  rw [n1] at hu hput
  have hju : j ∈ u'.refs := by rw [hu]; simp [V.refs]
  have hjr := hr j hju
  have hjw : j ≠ w := fun e => by
    rcases hjr with h2 | h2
    · exact (h.ad j h2).1 e
    · omega
  have nn : ∀ i, i < σ.length → i ∉ uA.refs → i ∉ u'.refs := fun i hi h1 h2 => by
    rcases hr i h2 with h3 | h3
    · exact h1 h3
    · omega
  have nj : ∀ i, i < σ.length → i ∉ uA.refs → i ≠ j := fun i hi h1 e => nn i hi h1 (e ▸ hju)
  have hB3 : ∀ i, i < σ.length → i ∉ uA.refs → s3[i]? = σ[i]? := hk
  have hB4 : ∀ i, i < σ.length → i ∉ uA.refs → (s3.set j (.row cs' 42 g 0))[i]? = σ[i]? := fun i hi h1 => by
    rw [List.getElem?_set_ne (Ne.symm (nj i hi h1))]
    exact hk i hi h1
  have hfp := wk_fp h
  have nfp : ∀ i, i ∉ fp σ w → i ∉ uA.refs := fun i hi h1 => hi (by rw [hfp]; simp [h1])
  have wA : w ∉ uA.refs := fun e => (h.ad w e).1 rfl
  have row3 : s3[w]? = _ := (hB3 w hw wA).trans h.row
  have row4 := (hB4 w hw wA).trans h.row
  have c4 : Cl (s3.set j (.row cs' 42 g 0)) := cl_set (hc h.cl) (by simp only [Ob.refs, hcr]; simp)
  have st3 := hput s3 rfl
  refine ⟨u', s3, j, g, .row cs' 42 g 0, e1, gs_cell g1, hu, row3, st3.1, row4, fun W' => ⟨(hput (s3.set w W') (List.getElem?_set_ne (Ne.symm hjw))).1, List.set_comm _ _ (Ne.symm hjw)⟩, ?_⟩
  have hnew := wk_new (σ2 := s3.set j (.row cs' 42 g 0)) (th' := th) (A' := (X ++ [x]).map Sp.row) (vA := u') h (by simpa using hl) (fun i hi h1 _ _ => hB4 i hi h1) (by rw [List.map_append]; exact st3.2 hj) (gs_any h.s fun i hi => hB4 i (gs_refs h.s i hi) fun e => (h.ad i e).2.1 hi) (gs_any h.t fun i hi => hB4 i (gs_refs h.t i hi) fun e => (h.ad i e).2.2 hi) hr (fun i hi => .inl hi) (fun i hi => .inl hi)
    (fun i hi => ?_) (fun i hi => (h.sd i hi).2) c4
  · exact ⟨hnew.1, hnew.2, fun i hi h1 => ⟨hB3 i hi (nfp i h1), hB4 i hi (nfp i h1)⟩⟩
  · refine ⟨fun e => ?_, fun e => ?_⟩
    · exact nn i (gs_refs h.s i e) (fun e2 => (h.ad i e2).2.1 e) hi
    · exact nn i (gs_refs h.t i e) (fun e2 => (h.ad i e2).2.2 e) hi
/-- the last statement around is left -/
theorem wk_p {σ : St} {w : Nat} {p : Gp} {th : Int} {uA uS uT : V} {X : List Sp} {x : Sp} {S T : List (List V)} (h : WK σ w p th uA uS uT ((X ++ [x]).map Sp.row) S T) :
    ∃ u', slcV 11 uA none (some (.int .i64 (X.length : Int))) none = some u' ∧ u'.cellB = true ∧ WK (σ.set w (.row [SL p.dz p.dt (p.decls.map Dp.row), SL p.tz p.tt (p.thrs.map Tp.row), .int .i64 th, u', uS, uT] 112 0 0)) w p th u' uS uT (X.map Sp.row) S T ∧ FW w σ (σ.set w (.row [SL p.dz p.dt (p.decls.map Dp.row), SL p.tz p.tt (p.thrs.map Tp.row), .int .i64 th, u', uS, uT] 112 0 0)) := by
  have h1 := h.a
  rw [List.map_append, List.map_cons, List.map_nil] at h1
  obtain ⟨u', e1, g1, hr⟩ := gs_pop h1
  rw [List.length_map] at e1
  exact ⟨u', e1, gs_cell g1, wk_new h (Nat.le_refl _) (fun _ _ _ _ _ => rfl) g1 h.s h.t (fun j hj => .inl (by rw [← hr]; exact hj)) (fun j hj => .inl hj) (fun j hj => .inl hj) (fun j hj => (h.ad j (by rw [← hr]; exact hj)).2) (fun j hj => (h.sd j hj).2) h.cl⟩
/-- what the walk of statements leaves -/
def AllR (w : Nat) (p : Gp) (th : Int) (X : List Sp) (n : Nat) (S T : List (List UInt8)) (σ : St) (v : V) (σ' : St) : Prop := ∃ e ln : Int, v = .tup [.int .i64 e, .int .i64 ln] ∧ ∃ (vA vS vT : V) (S' T' : List (List UInt8)), WK σ' w p th vA vS vT (X.map Sp.row) (S'.map fun x => [V.str x]) (T'.map fun x => [V.str x]) ∧ FW w σ σ' ∧ S'.length ≤ S.length + n ∧ T'.length ≤ T.length + n
theorem fw_keep4 {σ τ : St} {m j : Nat} (hw : FW m σ τ) (hl : j < σ.length) (hn : j ∉ fp σ m) : τ[j]? = σ[j]? ∧ j ∉ fp τ m := by
  refine ⟨hw.2.1 j hl hn, fun hm => ?_⟩
  rcases hw.2.2 j hm with h2 | h2
  · exact hn h2
  · omega
theorem fw_keep5 {σ τ : St} {m j : Nat} {x : Ob} (hw : FW m σ τ) (hj : σ[j]? = some x) (hn : j ∉ fp σ m) : τ[j]? = some x ∧ j ∉ fp τ m := by
  have h := fw_keep4 hw (List.getElem?_eq_some_iff.1 hj).1 hn
  exact ⟨h.1.trans hj, h.2⟩
def AllP (p : Gp) (l : List Sp) : Prop := ∀ (σ : St) (w : Nat) (th : Int) (uA uS uT : V) (X : List Sp) (S T : List (List UInt8)) (z : Bool) (t : Nat), WK σ w p th uA uS uT (X.map Sp.row) (S.map fun x => [V.str x]) (T.map fun x => [V.str x]) → X.length ≤ 6 → S.length + Sp.szs l ≤ 1000000 → T.length + Sp.szs l ≤ 1000000 →
    ∃ v σ', Th TT PT 60 [.ptr w 0 0, SL z t (l.map Sp.row)] σ v σ' ∧ AllR w p th X (Sp.szs l) S T σ v σ'
set_option maxHeartbeats 8000000 in
theorem all_step {p : Gp} (hp : LnG p) {l : List Sp} (hl : bulkRows (l.map Sp.row) ≤ 1000000000) (IH : ∀ x ∈ l, AllP p x.body ∧ AllP p x.els) : AllP p l := by
  intro σ w th uA uS uT X S T z t h hX hS hT
  have hbn := bulk_len (f := Sp.row) (fun x => by rw [bulks]; omega) l
  have n1 : (l.map Sp.row).length = l.length := List.length_map ..
  have hw := wk_lt h
  refine th_keep T60 rfl ?_
  simp only [go_sem]
  refine loop_w (α := Nat × St × V × V × V × List (List UInt8) × List (List UInt8)) (fun a => l.length - a.1) (fun a => [(0, .ptr w 0 0), (1, SL z t (l.map Sp.row)), (6, .int .i64 (a.1 : Int))]) (fun a => a.2.1)
    (fun a => a.1 ≤ l.length ∧ WK a.2.1 w p th a.2.2.1 a.2.2.2.1 a.2.2.2.2.1 (X.map Sp.row) (a.2.2.2.2.2.1.map fun x => [V.str x]) (a.2.2.2.2.2.2.map fun x => [V.str x]) ∧ FW w σ a.2.1 ∧ a.2.2.2.2.2.1.length + Sp.szs (l.drop a.1) ≤ S.length + Sp.szs l ∧ a.2.2.2.2.2.2.length + Sp.szs (l.drop a.1) ≤ T.length + Sp.szs l) ?_ (0, σ, uA, uS, uT, S, T) ⟨Nat.zero_le _, h, fw_refl _ _, by simp, by simp⟩
  clear h uA uS uT
  rintro ⟨i, s, vA, vS, vT, S1, T1⟩ ⟨hi, h1, f1, hS1, hT1⟩ ih
  simp only at hi h1 f1 hS1 hT1 ih
  refine w_rep (by delta lp60_0; exact rfl) ?_
  rcases Nat.lt_or_ge i l.length with h' | h'
  · obtain ⟨x, hx, hd, hm⟩ := at_some h'
    rw [hd, Sp.szs] at hS1 hT1
    have hsz := ssz_eq x
    have hbx := bulk_mem (f := Sp.row) hm
    have hxs := sset x
    obtain ⟨ihb, ihe⟩ := IH x hm
    have h2 : WK (s ++ [.row x.row 42 0 0]) w p th vA vS vT (X.map Sp.row) (S1.map fun x => [V.str x]) (T1.map fun x => [V.str x]) := wk_push h1 _ (cl_row h1.cl hxs)
    have f2 : FW w s (s ++ [.row x.row 42 0 0]) := fw_push _ (wk_lt h1)
    obtain ⟨_, s2, q1, e, rfl, wS, wT, S2, T2, h3, f3, bS, bT⟩ := one_th h2 hp (by omega) (by omega) (by omega) x (by omega)
    have hnf : ∀ {s' : St} {w1 w2 w3 : V} {A B C : List (List V)}, WK s' w p th w1 w2 w3 A B C → FW w s s' → s.length ∉ fp s w := fun _ _ hm => by
      rw [wk_fp h1] at hm
      simp only [List.mem_cons, List.mem_append] at hm
      rcases hm with hm | hm | hm | hm
      · have := wk_lt h1; omega
      · have := gs_refs h1.a _ hm; omega
      · have := gs_refs h1.s _ hm; omega
      · have := gs_refs h1.t _ hm; omega
    have nf2 : s.length ∉ fp (s ++ [.row x.row 42 0 0]) w := fun hm => by
      rw [wk_fp h2, ← wk_fp h1] at hm
      exact hnf h1 (fw_refl _ _) hm
    have k2 : s2[s.length]? = some (.row x.row 42 0 0) := by
      rw [f3.2.1 _ (by simp) nf2]
      simp
    have nf3 : s.length ∉ fp s2 w := fun hm => by
      rcases f3.2.2 _ hm with h4 | h4
      · exact nf2 h4
      · simp at h4; omega
    have l3 := gs_len h3.a
    rw [List.length_map] at l3
    have r3 := h3.row
    have hrow := srow11 x
    have g13 := fw_trans f1 (fw_trans f2 f3)
    rw [hrow] at q1 hxs
    have k2' := k2
    rw [hrow] at k2
    simp only [go_sem, n1, lt_t h', List.getElem?_map, hx, hrow]
    refine wx_th q1 ?_
    have e7 : IntKind.i64.wrap ((X.length : Int) + 1) = ((X.length + 1 : Nat) : Int) := by rw [wrap64 (by omega)]; rfl
    by_cases c6 : X.length = 6
    · have f6 : ((6 : Int) < ((X.length + 1 : Nat) : Int)) = True := eq_true (by omega)
      simp only [go_sem, r3, l3, e7, gt_iff_lt, f6, bne, Int.reduceBEq, Bool.not_false]
      refine w_drw (by kernel_rfl) ?_
      simp only [go_sem, k2]
      exact ⟨_, rfl, ⟨rfl, rfl⟩, ⟨g13.1, h3.cl⟩, _, _, rfl, _, _, _, S2, T2, h3, g13, by omega, by omega⟩
    have f6 : ((6 : Int) < ((X.length + 1 : Nat) : Int)) = False := eq_false (by omega)
    by_cases e0 : e = 0
    rotate_left
    · have y0 : (e == 0) = false := by simp [e0]
      simp only [go_sem, r3, l3, e7, gt_iff_lt, f6, bne, y0, Bool.not_false]
      refine w_drw (by kernel_rfl) ?_
      simp only [go_sem, k2]
      exact ⟨_, rfl, ⟨rfl, rfl⟩, ⟨g13.1, h3.cl⟩, _, _, rfl, _, _, _, S2, T2, h3, g13, by omega, by omega⟩
    subst e0
    obtain ⟨u', s3, j, g, Y, ha, hcell, hu, r3b, st3, r4, hcom, h4, f4, hk4⟩ := wk_a h3 x (by omega)
    obtain ⟨hcc, hca⟩ := cell_c4 hcell
    have k3 : s3[s.length]? = _ := (hk4 s.length (List.getElem?_eq_some_iff.1 k2).1 nf3).1.trans k2
    rw [hrow] at st3
    simp only [Nat.zero_add] at st3 hcom
    have st3' := sto_of st3
    have hcom' : ∀ W', sto2 (s3.set w W')[j]? (s3.set w W') 11 j g (X.length * 11) (.agg x.row) = some (.und, (s3.set w W').set j Y) := fun W' => sto_of (hcom W').1
    rw [hrow] at hcom'
    subst hu
    have hiad : iadV 11 (.sl j g 0 (X.length + 1) 11 true) (.int .i64 (X.length : Int)) = some (.ptr j g (X.length * 11)) := by
      have := iad_4 (m := 11) (j := j) (g := g) (off := 0) (w := true) (k := .i64) (show X.length < X.length + 1 by omega)
      rw [Nat.zero_add] at this
      exact this
    simp only [go_sem, r3, l3, e7, gt_iff_lt, f6, bne, Int.reduceBEq, Bool.not_true]
    refine w_drw2 9 12 [0, 1, 2, 3, 4, 5, 6, 7, 8, 9, 10, 11, 12] [0, 1, 2, 3, 4, 5, 6, 7, 10, 11, 12, 8, 9] [[], [0], [1], [2], [], [3], [], [0, 1, 2, 3, 4, 5, 6], [0, 1, 2, 3, 4, 5, 6, 7], [0, 1, 2, 3, 4, 5, 6, 7, 8], [0, 1, 2, 3, 4, 5, 6, 7], [0, 1, 2, 3, 4, 5, 6, 7, 10], [0, 1, 2, 3, 4, 5, 6, 7, 11, 9]] [[], [0], [1], [2], [], [3], [], [0, 1, 2, 3, 4, 5, 6], [0, 1, 2, 3, 4, 5, 6, 7], [0, 1, 2, 3, 4, 5, 6, 7, 8], [0, 1, 2, 3, 4, 5, 6, 7, 9], [0, 1, 2, 3, 4, 5, 6, 7], [0, 1, 2, 3, 4, 5, 6, 7, 11, 10]] (E := ?E) (S := ?S) (by kernel_rfl) ?h1 ?h2 ?h3
    case h1 =>
      simp only [pickAI, List.filterMap_cons, List.filterMap_nil, List.getElem?_cons_succ, List.getElem?_cons_zero, List.length_cons, List.length_nil, Nat.reduceAdd]
      simp only [go_sem, r3, l3, k2, ha]
      refine wgE ?_
      simp only [go_sem, ha]
      refine wgE ?_
      simp only [go_sem, hiad, st3']
      refine wgE ?_
      simp only [go_sem, r4]
      refine wgE ?_
      simp only [go_sem]
      exact de_ok
    case h2 =>
      simp only [pickAI, List.filterMap_cons, List.filterMap_nil, List.getElem?_cons_succ, List.getElem?_cons_zero, List.length_cons, List.length_nil, Nat.reduceAdd]
      simp only [go_sem, r3, l3, k2, ha]
      refine wgE ?_
      simp only [go_sem, ha]
      refine wgE ?_
      simp only [go_sem, r3b]
      refine wgE ?_
      simp only [go_sem, hiad, hcom']
      refine wgE ?_
      simp only [go_sem]
      exact ds_ok rfl (hcom _).2
    case h3 =>
      have hnw : s.length ≠ w := fun e => nf3 (by unfold fp; rw [e]; exact List.mem_cons_self)
      have k4 : ((s3.set j Y).set w (.row [SL p.dz p.dt (p.decls.map Dp.row), SL p.tz p.tt (p.thrs.map Tp.row), .int .i64 th, .sl j g 0 (X.length + 1) 11 true, wS, wT] 112 0 0))[s.length]? = some (.row [.int .i64 x.op, .int .i64 x.line, .str x.nm, .str x.arg, SL x.iz x.it (x.idx.map Xp.row), .int .i64 x.ex.op, .int .i64 x.ex.n, .str x.ex.nm, SL x.ex.z x.ex.t (x.ex.l.map Xp.row), SL x.bz x.bt (x.body.map Sp.row), SL x.ez x.et (x.els.map Sp.row)] 42 0 0) := by rw [List.getElem?_set_ne (Ne.symm hnw)]; exact (hk4 s.length (List.getElem?_eq_some_iff.1 k2).1 nf3).2.trans k2
      have nf4 := (fw_keep4 f4 (List.getElem?_eq_some_iff.1 k2).1 nf3).2
      obtain ⟨_, s5, q5, e5, ln5, rfl, xA, xS, xT, S5, T5, h5, f5, b5S, b5T⟩ := ihb _ w th _ _ _ (X ++ [x]) S2 T2 x.bz x.bt h4 (by simp; omega) (by omega) (by omega)
      have g15 := fw_trans g13 (fw_trans f4 f5)
      obtain ⟨k5, nf5⟩ := fw_keep5 f5 k4 nf4
      simp only [go_sem, k4]
      refine wx_th q5 ?_
      cases y5 : (e5 == 0)
      · obtain ⟨u6, hsl, hc6, h7, f7⟩ := wk_p h5
        obtain ⟨hcc6, hca6⟩ := cell_c4 hc6
        have r6 := h5.row
        have l6 := gs_len h5.a
        rw [List.length_map, List.length_append, List.length_singleton] at l6
        have e8 : IntKind.i64.wrap (((X.length + 1 : Nat) : Int) - 1) = (X.length : Int) := by rw [wrap64 (by omega)]; omega
        have g7 := fw_trans g15 f7
        simp only [go_sem, y5]
        refine w_drw (by kernel_rfl) ?_
        simp only [go_sem, r6, l6, e8, hsl, hcc6, hca6]
        refine wgE ?_
        simp only [go_sem, bne, y5, Bool.not_false, Bool.not_true, inc64 (show i < 9223372036854775807 by omega)]
        exact ⟨_, rfl, ⟨rfl, rfl⟩, ⟨g7.1, h7.cl⟩, _, _, rfl, _, _, _, S5, T5, h7, g7, by omega, by omega⟩
      · obtain ⟨_, s9, q9, e9, ln9, rfl, zA, zS, zT, S9, T9, h9, f9, b9S, b9T⟩ := ihe _ w th _ _ _ (X ++ [x]) S5 T5 x.ez x.et h5 (by simp; omega) (by omega) (by omega)
        have g19 := fw_trans g15 f9
        obtain ⟨u6, hsl, hc6, h7, f7⟩ := wk_p h9
        obtain ⟨hcc6, hca6⟩ := cell_c4 hc6
        have r6 := h9.row
        have l6 := gs_len h9.a
        rw [List.length_map, List.length_append, List.length_singleton] at l6
        have e8 : IntKind.i64.wrap (((X.length + 1 : Nat) : Int) - 1) = (X.length : Int) := by rw [wrap64 (by omega)]; omega
        have g7 := fw_trans g19 f7
        simp only [go_sem, y5, k5]
        refine wx_th q9 ?_
        simp only [go_sem]
        cases y9 : (e9 == 0)
        · refine w_drw (by kernel_rfl) ?_
          simp only [go_sem, r6, l6, e8, hsl, hcc6, hca6]
          refine wgE ?_
          simp only [go_sem, bne, y9, Bool.not_false, Bool.not_true, inc64 (show i < 9223372036854775807 by omega)]
          exact ⟨_, rfl, ⟨rfl, rfl⟩, ⟨g7.1, h7.cl⟩, _, _, rfl, _, _, _, S9, T9, h7, g7, by omega, by omega⟩
        · refine w_drw (by kernel_rfl) ?_
          simp only [go_sem, r6, l6, e8, hsl, hcc6, hca6]
          refine wgE ?_
          simp only [go_sem, bne, y9, Bool.not_false, Bool.not_true, inc64 (show i < 9223372036854775807 by omega)]
          exact W_keep (ih (i + 1, _, u6, zS, zT, S9, T9) (by simp only; omega) ⟨h', h7, g7, by simp only; omega, by simp only; omega⟩) rfl
  · simp only [go_sem, n1, lt_f h']
    rw [List.drop_eq_nil_of_le h', Sp.szs] at hS1 hT1
    exact ⟨_, rfl, ⟨rfl, rfl⟩, ⟨f1.1, h1.cl⟩, _, _, rfl, _, _, _, S1, T1, h1, f1, by omega, by omega⟩
end Go.Proofs.YtlehfgdhebapeaaDoor.KM
