/- Walks: the maker of programs: what a statement's walk carries along. -/
import Derived.Test.YtlehfgdhebapeaaDoorIi
set_option linter.all false
namespace Go.Proofs.YtlehfgdhebapeaaDoor.KM
open Go
theorem massign_fn (nm : List UInt8) (x : Xp) : Fn TT PT 35 [.str nm, .agg [.int .i64 x.op, .int .i64 x.n, .str x.nm, SL x.z x.t (x.l.map Xp.row)]] (.agg [.int .i64 1, .int .i64 0, .str nm, .str [], .nils, .int .i64 x.op, .int .i64 x.n, .str x.nm, SL x.z x.t (x.l.map Xp.row), .nils, .nils]) := by
  have hxs := xset x
  rw [xrow_def x] at hxs
  refine Fn_go T35 rfl ?_
  simp only [go_sem]
  exact fr_set (by simp only [go_sem])
theorem cell_c9 {v : V} (h : v.cellB = true) : v.cells = [v] ∧ [v].all V.cellB = true := ⟨by cases v <;> simp [V.cellB] at h <;> rfl, by simp only [List.all_cons, List.all_nil, h]; rfl⟩
theorem holds_th {σ : St} {m b : Nat} {uH : V} {H : List (List UInt8)} (h : MKr σ m b uH H) (hH : H.length ≤ 1000) (nm : List UInt8) : ∃ z : Bool, Th TT PT 83 [.ptr m 0 0, .str nm] σ (.bool z) σ := by
  obtain ⟨_, _, _, _, _, _, m1⟩ := h.row
  obtain ⟨z, hz⟩ := gs_oc h.h (by omega)
  have ha := at4_fn z 0 H nm (by omega)
  suffices hh : ∃ v, Th TT PT 83 [.ptr m 0 0, .str nm] σ v σ ∧ ∃ z, v = .bool z by
    obtain ⟨_, h1, z, rfl⟩ := hh
    exact ⟨z, h1⟩
  refine th_rel T83 rfl ?_
  simp only [go_sem, m1]
  refine wx_fo (.cons (ov_cell hz (gs_cell h.h)) (.cons (ov_set rfl) .nil)) ha (by rfl) ?_
  simp only [go_sem]
  exact ⟨_, rfl, ⟨rfl, rfl⟩, ⟨[], by simp⟩, _, rfl⟩
/-- what a statement's walk carries along: its result's place is σ.length -/
structure MW (σ s : St) (m b : Nat) (H : List (List UInt8)) : Prop where
  hk : ∃ uH, MKr s m b uH H
  fw : FW m σ s
  z : s[σ.length]? = some (.row [.int .i64 0, .int .i64 0, .str [], .str [], .nils, .int .i64 0, .int .i64 0, .str [], .nils, .nils, .nils] 42 0 0)
  n : σ.length ∉ fp s m
  m0 : m < σ.length
theorem ms_lt {σ s : St} {m b : Nat} {H : List (List UInt8)} (h : MW σ s m b H) : σ.length < s.length := (List.getElem?_eq_some_iff.1 h.z).1
theorem ms_step {σ s s' : St} {m b : Nat} {H : List (List UInt8)} {uH : V} (h : MW σ s m b H) (hk : MKr s' m b uH H) (w : FW m s s') : MW σ s' m b H := by
  obtain ⟨k, n⟩ := fw_keep w h.z h.n
  exact ⟨⟨_, hk⟩, fw_trans h.fw w, k, n, h.m0⟩
theorem ms_row {σ s : St} {m b : Nat} {H : List (List UInt8)} (h : MW σ s m b H) : ∃ (th left : Int) (se tx ao lp : Bool) (uH : V), s[m]? = some (.row [.ptr b 0 0, .int .i64 th, .int .i64 left, .bool se, .bool tx, .bool ao, .bool lp, uH] 80 0 0) ∧
    ∀ (th left : Int) (se tx ao lp : Bool), MW σ (s.set m (.row [.ptr b 0 0, .int .i64 th, .int .i64 left, .bool se, .bool tx, .bool ao, .bool lp, uH] 80 0 0)) m b H ∧ FW m s (s.set m (.row [.ptr b 0 0, .int .i64 th, .int .i64 left, .bool se, .bool tx, .bool ao, .bool lp, uH] 80 0 0)) := by
  obtain ⟨uH, hk⟩ := h.hk
  obtain ⟨th, left, se, tx, ao, lp, hr⟩ := hk.row
  refine ⟨th, left, se, tx, ao, lp, uH, hr, fun th left se tx ao lp => ?_⟩
  obtain ⟨h1, h2⟩ := mr_own hk th left se tx ao lp
  exact ⟨ms_step h h1 h2, h2⟩
theorem ms_next {σ s : St} {m b : Nat} {H : List (List UInt8)} (h : MW σ s m b H) (n : Nat) (hn : n ≤ 1000000000 := by omega) : ∃ (r : Nat) (s' : St), ThP TT PT 19 [.ptr b 0 0, .int .i64 (n : Int)] s (.int .i64 (r : Int)) s' ∧ (r < n ∨ r = 0) ∧ MW σ s' m b H ∧ FW m s s' ∧ s'[m]? = s[m]? := by
  obtain ⟨uH, hk⟩ := h.hk
  obtain ⟨r, s', q, h1, h2, -, h4, h5⟩ := mr_next hk n n rfl hn
  exact ⟨r, s', q, h4, ms_step h h1 h2, h2, h5⟩
theorem ms_expr {σ s : St} {m b : Nat} {H : List (List UInt8)} (h : MW σ s m b H) (d : Nat) (hd : d ≤ 5 := by omega) : ∃ (x : Xp) (s' : St), Th TT PT 82 [.ptr m 0 0, .int .i64 (d : Int)] s (.agg [.int .i64 x.op, .int .i64 x.n, .str x.nm, SL x.z x.t (x.l.map Xp.row)]) s' ∧ MX d x ∧ MW σ s' m b H ∧ FW m s s' ∧ setC (.agg [.int .i64 x.op, .int .i64 x.n, .str x.nm, SL x.z x.t (x.l.map Xp.row)]) = true := by
  obtain ⟨uH, hk⟩ := h.hk
  obtain ⟨_, s', q, ⟨x, rfl, hx⟩, h1, h2⟩ := mexpr_th 5 (by omega) d hd s m b uH H hk
  have hs := xset x
  rw [xrow_def x] at q hs
  exact ⟨x, s', q, hx, ms_step h h1 h2, h2, hs⟩
theorem ms_holds {σ s : St} {m b : Nat} {H : List (List UInt8)} (h : MW σ s m b H) (hH : H.length ≤ 1000) (nm : List UInt8) : ∃ z : Bool, Th TT PT 83 [.ptr m 0 0, .str nm] s (.bool z) s := by
  obtain ⟨uH, hk⟩ := h.hk
  exact holds_th hk hH nm
/-- a list of statements of the walk's own -/
def BLs (σ s : St) (m : Nat) (u : V) (L : List Sp) : Prop := GS s 11 42 u (L.map Sp.row) ∧ ∀ j ∈ u.refs, σ.length < j ∧ j ∉ fp s m
theorem bl_fw {σ s s' : St} {m : Nat} {u : V} {L : List Sp} (h : BLs σ s m u L) (hw : FW m s s') : BLs σ s' m u L := by
  obtain ⟨h1, h2⟩ := h
  refine ⟨gs_any h1 fun i hi => hw.2.1 i (gs_refs h1 i hi) (h2 i hi).2, fun j hj => ⟨(h2 j hj).1, fun hm => ?_⟩⟩
  have := gs_refs h1 j hj
  rcases hw.2.2 j hm with h3 | h3
  · exact (h2 j hj).2 h3
  · omega
theorem fp_set {s : St} {m j : Nat} {X : Ob} (hj : j ≠ m) : fp (s.set j X) m = fp s m := by
  unfold fp
  rw [List.getElem?_set_ne hj]
theorem bl_put {σ s : St} {m j : Nat} {u : V} {L : List Sp} (X : Ob) (h : BLs σ s m u L) (hj : j ∉ u.refs) (hm : j ≠ m) : BLs σ (s.set j X) m u L := by
  obtain ⟨h1, h2⟩ := h
  exact ⟨gs_any h1 fun i hi => List.getElem?_set_ne fun (e : j = i) => hj (by rw [e]; exact hi), fun i hi => ⟨(h2 i hi).1, by rw [fp_set hm]; exact (h2 i hi).2⟩⟩
theorem ms_stmts {σ s : St} {m b k : Nat} {H : List (List UInt8)} (hS : MSs k) (h : MW σ s m b H) (hH : H.length + k ≤ 100) (n : Nat) (hn : n ≤ 1000000 := by omega) : ∃ (u : V) (L : List Sp) (s' : St), ThP TT PT 33 [.ptr m 0 0, .int .i64 (k : Int), .int .i64 (n : Int)] s u s' ∧ BLs σ s' m u L ∧ (u.cells = [u] ∧ [u].all V.cellB = true ∧ u.cellB = true ∧ ∀ j ∈ u.refs, s.length ≤ j) ∧ ((∀ x ∈ L, SM k x) ∧ L.length ≤ n) ∧ MW σ s' m b H ∧ FW m s s' := by
  obtain ⟨uH, hk⟩ := h.hk
  obtain ⟨u, s', q, L, uH', hO, hL, hlen, h1, h2⟩ := hS s m b uH H hk hH n hn
  have hc := gs_cell hO.1
  have hl := ms_lt h
  exact ⟨u, L, s', q, ⟨hO.1, fun j hj => ⟨by have := (hO.2 j hj).1; omega, (hO.2 j hj).2⟩⟩, ⟨(cell_c9 hc).1, (cell_c9 hc).2, hc, fun j hj => (hO.2 j hj).1⟩, ⟨hL, hlen⟩, ms_step h h1 h2, h2⟩
/-- what maker.block gives -/
def MBl (k : Nat) : Prop := ∀ (σ : St) (m b : Nat) (uH : V) (H : List (List UInt8)) (nm : List UInt8), MKr σ m b uH H → H.length + 1 + k ≤ 100 → ∃ v σ', ThP TT PT 84 [.ptr m 0 0, .str nm, .int .i64 (k : Int)] σ v σ' ∧ ∃ (L : List Sp) (uH' : V), OL σ σ' m v L ∧ (∀ x ∈ L, SM k x) ∧ L.length ≤ 2 ∧ MKr σ' m b uH' H ∧ FW m σ σ'
theorem ms_block {σ s : St} {m b k : Nat} {H : List (List UInt8)} (hS : MBl k) (h : MW σ s m b H) (hH : H.length + 1 + k ≤ 100) (nm : List UInt8) : ∃ (u : V) (L : List Sp) (s' : St), ThP TT PT 84 [.ptr m 0 0, .str nm, .int .i64 (k : Int)] s u s' ∧ BLs σ s' m u L ∧ (u.cells = [u] ∧ [u].all V.cellB = true ∧ u.cellB = true ∧ ∀ j ∈ u.refs, s.length ≤ j) ∧ ((∀ x ∈ L, SM k x) ∧ L.length ≤ 2) ∧ MW σ s' m b H ∧ FW m s s' := by
  obtain ⟨uH, hk⟩ := h.hk
  obtain ⟨u, s', q, L, uH', hO, hL, hlen, h1, h2⟩ := hS s m b uH H nm hk hH
  have hc := gs_cell hO.1
  have hl := ms_lt h
  exact ⟨u, L, s', q, ⟨hO.1, fun j hj => ⟨by have := (hO.2 j hj).1; omega, (hO.2 j hj).2⟩⟩, ⟨(cell_c9 hc).1, (cell_c9 hc).2, hc, fun j hj => (hO.2 j hj).1⟩, ⟨hL, hlen⟩, ms_step h h1 h2, h2⟩
theorem ms_push {σ s : St} {m b : Nat} {H : List (List UInt8)} (h : MW σ s m b H) (X : Ob) (hX : ∀ i ∈ X.refs, i < s.length + 1) : MW σ (s ++ [X]) m b H ∧ FW m s (s ++ [X]) ∧ s.length ∉ fp (s ++ [X]) m ∧ (s ++ [X])[s.length]? = some X ∧ s.length ≠ m := by
  obtain ⟨uH, hk⟩ := h.hk
  obtain ⟨h1, h2⟩ := mr_push hk [X] (cl_push hk.cl hX)
  have hm := mr_lt hk
  refine ⟨ms_step h h1 h2, h2, fun hm => ?_, by simp, by omega⟩
  rw [mr_fp h1, ← mr_fp hk] at hm
  exact mr_nfp (τ := s) hk (Nat.le_refl _) hm
theorem ms_put {σ s : St} {m b j : Nat} {H : List (List UInt8)} (h : MW σ s m b H) (X : Ob) (hj : σ.length < j) (hn : j ∉ fp s m) (hX : ∀ i ∈ X.refs, i < s.length) : MW σ (s.set j X) m b H := by
  obtain ⟨uH, hk⟩ := h.hk
  rw [mr_fp hk] at hn
  simp only [List.mem_cons, not_or] at hn
  refine ⟨⟨uH, mr_any hk (cl_set hk.cl hX) (List.getElem?_set_ne hn.1) ?_ fun i hi => List.getElem?_set_ne fun (e : j = i) => hn.2.2 (by rw [e]; exact hi)⟩, fw_set h.fw (by omega) h.m0, by rw [List.getElem?_set_ne (by omega)]; exact h.z, by rw [fp_set hn.1]; exact h.n, h.m0⟩
  obtain ⟨z, t, l, a, h1, h2⟩ := hk.tape
  exact ⟨z, t, l, a, by rw [List.getElem?_set_ne hn.2.1]; exact h1, h2⟩
/-- one statement more -/
theorem bl_app {σ s : St} {m b : Nat} {u : V} {H : List (List UInt8)} {L : List Sp} (h : BLs σ s m u L) (hk : MW σ s m b H) (x : Sp) (hb : L.length ≤ 1000000) : ∃ u' s', appV 176 (11, 42) u (.lst 1 [x.row]) s = some (u', s') ∧ BLs σ s' m u' (L ++ [x]) ∧ (u'.cells = [u'] ∧ [u'].all V.cellB = true ∧ u'.cellB = true) ∧ MW σ s' m b H := by
  obtain ⟨uH, hk1⟩ := hk.hk
  obtain ⟨h1, h2⟩ := h
  obtain ⟨u', s', e1, g, hl, hB, hr, hc⟩ := gs_push (bytes := 176) (row := x.row) h1 (by omega) (srow_len x) (sset x) (by rw [List.length_map]; omega)
  have hf := mr_fp hk1
  have nf : ∀ i ∈ fp s m, i < s.length ∧ i ∉ u.refs := fun i hi => by
    refine ⟨?_, fun e => (h2 i e).2 hi⟩
    rw [hf] at hi
    simp only [List.mem_cons] at hi
    rcases hi with rfl | rfl | hi
    · exact mr_lt hk1
    · exact ts_lt hk1.tape
    · exact gs_refs hk1.h i hi
  have kp : ∀ i ∈ fp s m, s'[i]? = s[i]? := fun i hi => hB i (nf i hi).1 (nf i hi).2
  have hm : s'[m]? = s[m]? := kp m (by rw [hf]; simp)
  have hb' : s'[b]? = s[b]? := kp b (by rw [hf]; simp)
  have efp : fp s' m = fp s m := by unfold fp; rw [hm]
  refine ⟨u', s', e1, ⟨by rw [List.map_append]; exact g, fun j hj => ?_⟩, ⟨(cell_c9 (gs_cell g)).1, (cell_c9 (gs_cell g)).2, gs_cell g⟩, ⟨uH, mr_any hk1 (hc hk1.cl) hm ?_ fun i hi => kp i (by rw [hf]; simp [hi])⟩, fw_ref hk.fw hk.m0 hl (fun j hj => .inr (Nat.le_of_lt (h2 j hj).1)) (fun j hj hn => hB j hj hn) fun e => (h2 m e).2 (by rw [hf]; simp), by rw [hB _ (ms_lt hk) fun e => by have := (h2 _ e).1; omega]; exact hk.z, by rw [efp]; exact hk.n, hk.m0⟩
  · rw [efp]
    rcases hr j hj with h3 | h3
    · exact h2 j h3
    · exact ⟨by have := ms_lt hk; omega, fun e => by have := (nf j e).1; omega⟩
  · obtain ⟨z, t, l, a, h1, h2⟩ := hk1.tape
    exact ⟨z, t, l, a, by rw [hb']; exact h1, h2⟩
/-- a list in the result -/
def BSs (σ s : St) (m : Nat) (u : V) (L : List Sp) : Prop := (∃ z t, u = SL z t (L.map Sp.row)) ∨ BLs σ s m u L
theorem bs_oc {σ s : St} {m : Nat} {u : V} {L : List Sp} (h : BSs σ s m u L) (X : Ob) : ∃ z t, OC (s.set σ.length X) u (SL z t (L.map Sp.row)) ∧ u.cellB = true ∧ (∀ j ∈ u.refs, σ.length < j ∧ j ∉ fp s m ∧ j < s.length) := by
  rcases h with ⟨z, t, rfl⟩ | ⟨h1, h2⟩
  · refine ⟨z, t, oc_row ?_, ?_, by rw [slz_refs]; simp⟩
    · exact sl_row z t _
    · unfold SL; split <;> rfl
  · have h3 : GS (s.set σ.length X) 11 42 u (L.map Sp.row) := gs_any h1 fun i hi => List.getElem?_set_ne (by have := (h2 i hi).1; omega)
    obtain ⟨z, hz⟩ := gs_oc h3 (by omega)
    exact ⟨z, 0, hz, gs_cell h1, fun j hj => ⟨(h2 j hj).1, (h2 j hj).2, gs_refs h1 j hj⟩⟩
set_option maxHeartbeats 1000000 in
theorem ms_end {σ s : St} {m b k : Nat} {H : List (List UInt8)} {e : Env} {uB uE : V} {cs : List V} {op line : Int} {nm arg : List UInt8} {iz : Bool} {it : Nat} {idx : List Xp} {ex : Xp} {LB LE : List Sp} (h : MW σ s m b H) (he : e.get 4 = .ptr σ.length 0 0) (hB : BSs σ s m uB LB) (hE : BSs σ s m uE LE)
    (hcs : cs = [.int .i64 op, .int .i64 line, .str nm, .str arg, SL iz it (idx.map Xp.row), .int .i64 ex.op, .int .i64 ex.n, .str ex.nm, SL ex.z ex.t (ex.l.map Xp.row), uB, uE]) (hS : ∀ z t z' t', SM k ⟨op, line, nm, arg, iz, it, idx, ex, z, t, LB, z', t', LE⟩) :
    ∃ cs1 cs', resV e (s.set σ.length (.row cs 42 0 0)) [.cell 4 11 false] = some (.agg cs1) ∧ (cs1.all V.cellB = true ∧ OCs (s.set σ.length (.row cs 42 0 0)) cs1 cs' ∧ cs'.all V.rowB = true) ∧ (σ.length ≤ (s.set σ.length (.row cs 42 0 0)).length ∧ Cl (s.set σ.length (.row cs 42 0 0))) ∧
      ((∃ x : Sp, V.agg cs' = .agg x.row ∧ SM k x) ∧ (∃ uH', MKr (St.freeze (s.set σ.length (.row cs 42 0 0)) (refsL cs1)) m b uH' H) ∧ FW m σ (St.freeze (s.set σ.length (.row cs 42 0 0)) (refsL cs1))) := by
  have hl := ms_lt h
  obtain ⟨uH, hk⟩ := h.hk
  obtain ⟨z1, t1, o1, c1, r1⟩ := bs_oc hB (.row cs 42 0 0)
  obtain ⟨z2, t2, o2, c2, r2⟩ := bs_oc hE (.row cs 42 0 0)
  have hxi : V.rowB (SL iz it (idx.map Xp.row)) = true := sl_row _ _ _
  have hxl : V.rowB (SL ex.z ex.t (ex.l.map Xp.row)) = true := sl_row _ _ _
  have hrefs : refsL cs = uB.refs ++ uE.refs := by
    rw [hcs]
    simp only [refsL, slz_refs, V.refs, List.nil_append, List.append_nil]
  have hfr : ∀ j ∈ refsL cs, σ.length < j ∧ j ∉ fp s m ∧ j < s.length := fun j hj => by
    rw [hrefs] at hj
    rcases List.mem_append.1 hj with hj | hj
    · exact r1 j hj
    · exact r2 j hj
  have hcl : Cl (s.set σ.length (.row cs 42 0 0)) := cl_set hk.cl fun i hi => (hfr i hi).2.2
  have hn := h.n
  have hfp := mr_fp hk
  rw [hfp] at hn
  simp only [List.mem_cons, not_or] at hn
  have hself : (s.set σ.length (.row cs 42 0 0))[σ.length]? = some (.row cs 42 0 0) := List.getElem?_set_self hl
  have hmF : ∀ j, j ∈ fp s m → (St.freeze (s.set σ.length (.row cs 42 0 0)) (refsL cs))[j]? = s[j]? := fun j hj => by
    rw [fz_get _ _ _ fun e => (hfr j e).2.1 hj, List.getElem?_set_ne fun (e : σ.length = j) => h.n (by rw [e]; exact hj)]
  have hmm := hmF m (by rw [hfp]; simp)
  refine ⟨cs, [.int .i64 op, .int .i64 line, .str nm, .str arg, SL iz it (idx.map Xp.row), .int .i64 ex.op, .int .i64 ex.n, .str ex.nm, SL ex.z ex.t (ex.l.map Xp.row), SL z1 t1 (LB.map Sp.row), SL z2 t2 (LE.map Sp.row)], resN hself he (by rw [hcs]; rfl), ⟨?_, ?_, ?_⟩, ⟨by rw [List.length_set]; omega, hcl⟩, ⟨⟨op, line, nm, arg, iz, it, idx, ex, z1, t1, LB, z2, t2, LE⟩, by rw [srow11], hS z1 t1 z2 t2⟩, ⟨uH, mr_any hk (fz_cl _ _ hcl) hmm ?_ fun i hi => hmF i (by rw [hfp]; simp [hi])⟩, ?_⟩
  · rw [hcs]
    have a1 : V.cellB (SL iz it (idx.map Xp.row)) = true := by unfold SL; split <;> rfl
    have a2 : V.cellB (SL ex.z ex.t (ex.l.map Xp.row)) = true := by unfold SL; split <;> rfl
    simp only [List.all_cons, List.all_nil, a1, a2, c1, c2]
    rfl
  · conv => arg 2; rw [hcs]
    exact .cons (oc_row rfl) (.cons (oc_row rfl) (.cons (oc_row rfl) (.cons (oc_row rfl) (.cons (oc_row hxi) (.cons (oc_row rfl) (.cons (oc_row rfl) (.cons (oc_row rfl) (.cons (oc_row hxl) (.cons o1 (.cons o2 .nil))))))))))
  · have b1 : V.rowB (SL z1 t1 (LB.map Sp.row)) = true := sl_row _ _ _
    have b2 : V.rowB (SL z2 t2 (LE.map Sp.row)) = true := sl_row _ _ _
    simp only [List.all_cons, List.all_nil, hxi, hxl, b1, b2]
    rfl
  · obtain ⟨z, t, l, a, h1, h2⟩ := hk.tape
    exact ⟨z, t, l, a, by rw [hmF b (by rw [hfp]; simp)]; exact h1, h2⟩
  · have hw := h.fw
    refine ⟨by rw [freeze_len, List.length_set]; omega, fun j hj hn2 => ?_, fun j hj => ?_⟩
    · rw [fz_get _ _ _ fun e => by have := (hfr j e).1; omega, List.getElem?_set_ne (by omega)]
      exact hw.2.1 j hj hn2
    · unfold fp at hj
      rw [hmm] at hj
      exact hw.2.2 j hj
/-- a statement that is made -/
theorem sm_mk {k : Nat} {x : Sp} (h1 : 1 ≤ x.op ∧ x.op ≤ 15) (h2 : x.idx.length ≤ 1) (h3 : x.op ≠ 1 → x.idx = []) (h4 : ∀ y ∈ x.idx, MX 0 y) (h5 : (valuedE x.op = true ∧ MX 1 x.ex) ∨ (valuedE x.op = false ∧ x.ex = Xp.zero)) (h6 : (namelessE x.op = true ∧ x.nm = []) ∨ (namelessE x.op = false ∧ Nm4 x.nm)) (h7 : (x.op ≠ 15 ∧ x.arg = []) ∨ (x.op = 15 ∧ Nm4 x.arg))
    (h8 : bodyE x.op = false → x.body = []) (h8' : x.op ≠ 2 → x.els = []) (h9 : bodyE x.op = true → k ≠ 0 ∧ (x.body.length ≤ 3 ∧ ∀ y ∈ x.body, SM (k - 1) y) ∧ (x.els.length ≤ 1 ∧ ∀ y ∈ x.els, SM (k - 1) y)) : SM k x := by
  have hv : ∀ n : Int, (n = 1 ∨ n = 2 ∨ n = 3 ∨ n = 14) → valuedE n = true := by
    rintro n (rfl | rfl | rfl | rfl) <;> rfl
  have e0 : EB 0 = 22 := rfl
  have e1 : EB 1 = 54 := rfl
  have x0 : XBk 0 = 12 := rfl
  have x1 : XBk 1 = 36 := rfl
  refine ⟨sb_mk h1 h2 h3 (fun y hy => ⟨(h4 y hy).1, by have := (h4 y hy).2.1; omega⟩) (fun h => ?_) (fun h => ?_) h6 h7 h8 h8' fun h => ?_, ?_⟩
  · rcases h5 with ⟨-, h5⟩ | ⟨h5, -⟩
    · exact ⟨h5.1, by have := h5.2.1; omega⟩
    · rw [hv _ h] at h5; cases h5
  · rcases h5 with ⟨h5, -⟩ | ⟨-, h5⟩
    · rw [h] at h5; cases h5
    · rw [h5]; exact ⟨rfl, rfl, rfl, rfl⟩
  · obtain ⟨a, b, c⟩ := h9 h
    exact ⟨a, b.1, c.1, fun y hy => (b.2 y hy).1, fun y hy => (c.2 y hy).1⟩
  · have hn : x.nm.length ≤ 4 := by
      rcases h6 with ⟨-, h⟩ | ⟨-, h⟩
      · rw [h]; simp
      · exact h.2
    have ha : x.arg.length ≤ 4 := by
      rcases h7 with ⟨-, h⟩ | ⟨-, h⟩
      · rw [h]; simp
      · exact h.2
    have hi : bulkRows (x.idx.map Xp.row) ≤ 12 := by
      rcases hx : x.idx with _ | ⟨y, r⟩
      · simp [bulkRows]
      · rw [hx] at h2 h4
        have : r = [] := List.length_eq_zero_iff.1 (by rw [List.length_cons] at h2; omega)
        subst this
        have := (h4 y (by simp)).2.2
        simp [bulkRows]
        omega
    have he : bulkRow x.ex.row ≤ 36 := by
      rcases h5 with ⟨-, h5⟩ | ⟨-, h5⟩
      · have := h5.2.2; omega
      · rw [h5, bulkx]; simp [Xp.zero, bulkRows]
    rw [bulks]
    cases hb : bodyE x.op
    · have hel : x.els = [] := h8' fun e => by rw [e] at hb; cases hb
      rw [h8 hb, hel]
      simp only [List.map_nil, bulkRows]
      have : BK 0 ≤ BK k := bk_mono (Nat.zero_le _)
      have : BK 0 = 100 := rfl
      omega
    · obtain ⟨hk, ⟨l1, b1⟩, ⟨l2, b2⟩⟩ := h9 hb
      have hsum : ∀ {l : List Sp}, (∀ y ∈ l, SM (k - 1) y) → bulkRows (l.map Sp.row) ≤ l.length * BK (k - 1) := by
        intro l
        induction l with
        | nil => intro _; simp [bulkRows]
        | cons y l ih =>
          intro h
          have h1 := (h y (by simp)).2
          have h2 := ih fun z hz => h z (by simp [hz])
          rw [List.map_cons, bulkRows, List.length_cons, Nat.succ_mul]
          omega
      have g1 := hsum b1
      have g2 := hsum b2
      have g3 : x.body.length * BK (k - 1) ≤ 3 * BK (k - 1) := Nat.mul_le_mul_right _ l1
      have g4 : x.els.length * BK (k - 1) ≤ 1 * BK (k - 1) := Nat.mul_le_mul_right _ l2
      have g5 : BK k = 100 + 4 * BK (k - 1) := by
        cases k with
        | zero => exact absurd rfl hk
        | succ k => rfl
      omega
end Go.Proofs.YtlehfgdhebapeaaDoor.KM
