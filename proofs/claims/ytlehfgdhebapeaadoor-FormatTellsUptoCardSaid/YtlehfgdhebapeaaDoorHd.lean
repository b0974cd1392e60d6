/- Walks: loose statements. -/
import Derived.Test.YtlehfgdhebapeaaDoorHc
import Derived.Test.YtlehfgdhebapeaaDoorQs
set_option linter.all false
namespace Go.Proofs.YtlehfgdhebapeaaDoor.KM
open Go
/-- the number, and the maker's own object stays; a new object behind does not matter -/
theorem lnm {s : St} {m b : Nat} (h : LS s m b) (n : Nat) (N : Int) (hN : N = n) (hn : n ≤ 1000000000) : ∃ (r : Nat) (s' : St), ThP TT PT 19 [.ptr b 0 0, .int .i64 N] s (.int .i64 (r : Int)) s' ∧ LW s s' m b ∧ s'.length = s.length ∧ (r < n ∨ r = 0) ∧ s'[m]? = s[m]? ∧ ∀ z, ThP TT PT 19 [.ptr b 0 0, .int .i64 N] (s ++ [z]) (.int .i64 (r : Int)) (s' ++ [z]) := by
  subst hN
  obtain ⟨r, s', h1, h2, h3, h4, -, h5⟩ := next_any h.1 n hn
  exact ⟨r, s', h1, lw_tw (lw_refl h) h2, h3, h4, h2.2.1 m (ls_lt h) h.2.1, h5⟩
theorem we_meet {T : Nat → Option AF} {pr : Nat → Option (List V → Option V)} {a b : AC} {k : List It} {e : Env} {σ : St} {Q : Env → St → Prop} (hf : a.flat = true) (P : Env → St → Prop) (h1 : WE T pr e [.c a] σ (Hd P)) (h2 : ∀ e σ, P e σ → W T pr (.c b :: k) e σ Q) : WE T pr e (.c (.seq a b) :: k) σ Q := by
  have h : W T pr (.c (.seq a b) :: k) e σ Q := by
    rw [w_seq]
    exact (flat_iff a hf _ _ _ _).2 (W_mono h1 h2)
  exact h
/-- what lies in a maker of statements -/
def IS (s σ : St) (m b n5 : Nat) (row : List V) : Prop := LW s σ m b ∧ s.length < n5 ∧ n5 < σ.length ∧ σ[s.length]? = some (.row [.int .i64 0, .int .i64 0, .str [], .str [], .nils, .int .i64 0, .int .i64 0, .str [], .nils, .nils, .nils] 42 0 0) ∧ σ[n5]? = some (.row row 42 0 0)
theorem is_any {s σ τ : St} {m b n5 : Nat} {row : List V} (h : IS s σ m b n5 row) (hw : LW σ τ m b) : IS s τ m b n5 row := by
  obtain ⟨h1, h2, h3, h4, h5⟩ := h
  have hm := h1.2.2.2
  exact ⟨lw_trans h1 hw, h2, by have := hw.1; omega, by rw [hw.2.1 _ (by omega) (by omega) (by omega)]; exact h4, by rw [hw.2.1 _ h3 (by omega) (by omega)]; exact h5⟩
theorem is_set {s σ : St} {m b n5 : Nat} {row : List V} (row' : List V) (h : IS s σ m b n5 row) : IS s (σ.set n5 (.row row' 42 0 0)) m b n5 row' := by
  obtain ⟨h1, h2, h3, h4, h5⟩ := h
  exact ⟨lw_set h1 (by omega), h2, by simpa using h3, by rw [List.getElem?_set_ne (by omega)]; exact h4, List.getElem?_set_self h3⟩
set_option maxHeartbeats 8000000 in
theorem lstmt_step {k : Nat} (hk : k ≤ 10) (ih : k ≠ 0 → ∀ n, n ≤ 1000000 → ∀ s m b, LS s m b → LSs (k - 1) n m b s) {s : St} {m b : Nat} (h : LS s m b) : LSt k m b s := by
  intro hleft
  have hm0 := ls_lt h
  have hb0 := ts_lt h.1
  refine thp_go T44 rfl ?_
  obtain ⟨s1, e1⟩ : ∃ s1 : St, s1 = s ++ [.row [.int .i64 0, .int .i64 0, .str [], .str [], .nils, .int .i64 0, .int .i64 0, .str [], .nils, .nils, .nils] 42 0 0] := ⟨_, rfl⟩
  have w1 : LW s s1 m b := by rw [e1]; exact lw_push (lw_refl h)
  have k1 : s1[s.length]? = some (.row [.int .i64 0, .int .i64 0, .str [], .str [], .nils, .int .i64 0, .int .i64 0, .str [], .nils, .nils, .nils] 42 0 0) := by rw [e1, List.getElem?_append_right (Nat.le_refl _), Nat.sub_self]; rfl
  obtain ⟨line, left, m1⟩ := ls_row w1.2.2.1
  have hlv : 1 ≤ left ∧ left ≤ 70 := by
    obtain ⟨l1, l2, h1, h2⟩ := hleft
    have h3 := ls_left w1.2.2.1 m1
    rw [e1, get_app_some h1] at m1
    cases m1
    omega
  have w1a : LW s (s1.set m (.row [.ptr b 0 0, .int .i64 (IntKind.i64.wrap (line + 1)), .int .i64 left] 56 0 0)) m b := lw_own w1 (by omega)
  have m1a : (s1.set m (.row [.ptr b 0 0, .int .i64 (IntKind.i64.wrap (line + 1)), .int .i64 left] 56 0 0))[m]? = some (.row [.ptr b 0 0, .int .i64 (IntKind.i64.wrap (line + 1)), .int .i64 left] 56 0 0) := List.getElem?_set_self (by have := w1.1; omega)
  obtain ⟨s2, e2⟩ : ∃ s2 : St, s2 = (s1.set m (.row [.ptr b 0 0, .int .i64 (IntKind.i64.wrap (line + 1)), .int .i64 left] 56 0 0)).set m (.row [.ptr b 0 0, .int .i64 (IntKind.i64.wrap (line + 1)), .int .i64 (IntKind.i64.wrap (left - 1))] 56 0 0) := ⟨_, rfl⟩
  have w2 : LW s s2 m b := by rw [e2]; exact lw_own w1a (by rw [wrap64 (by omega)]; omega)
  have m2 : s2[m]? = some (.row [.ptr b 0 0, .int .i64 (IntKind.i64.wrap (line + 1)), .int .i64 (IntKind.i64.wrap (left - 1))] 56 0 0) := by rw [e2]; exact List.getElem?_set_self (by have := w1a.1; omega)
  have k2 : s2[s.length]? = some (.row [.int .i64 0, .int .i64 0, .str [], .str [], .nils, .int .i64 0, .int .i64 0, .str [], .nils, .nils, .nils] 42 0 0) := by rw [e2, List.getElem?_set_ne (by omega), List.getElem?_set_ne (by omega)]; exact k1
  obtain ⟨r, s3, q3, w3, l3, r3, mm3, q3z⟩ := lnm w2.2.2.1 15 15 rfl (by omega)
  have m3 := mm3.trans m2
  have k3 : s3[s.length]? = some (.row [.int .i64 0, .int .i64 0, .str [], .str [], .nils, .int .i64 0, .int .i64 0, .str [], .nils, .nils, .nils] 42 0 0) := by rw [w3.2.1 _ (by have := w1.1; rw [e2, e1]; simp) (by omega) (by omega)]; exact k2
  generalize hline : IntKind.i64.wrap (line + 1) = ln at *
  have e3 : IntKind.i64.wrap (1 + (r : Int)) = ((1 + r : Nat) : Int) := by rw [wrap64 (by omega)]; omega
  rw [e1] at m1
  rw [e1] at m1a
  have hl2 := l3.symm
  rw [e2, e1] at q3 q3z hl2
  rw [e2, e1] at m2
  have m2z := fun x : Ob => get_app_some (l := [x]) m2
  have m3z := fun x : Ob => get_app_some (l := [x]) m3
  simp only [go_sem, m1, hline, m1a]
  refine w_drw2 4 11 [0, 1, 2, 3, 4, 5, 6, 7, 8, 9, 10, 11, 12] [11, 0, 1, 2, 3, 4, 5, 6, 7, 8, 9, 10, 12] [[], [0], [1], [2], [3], [4], [], [6], [7], [8], [5, 9], [4], [0, 1, 2, 3, 4, 5, 6, 7, 8, 9, 10, 11]] [[], [], [1], [2], [3], [0, 4], [5], [], [7], [8], [9], [6, 10], [0, 1, 2, 3, 4, 5, 6, 7, 8, 9, 10, 11]] (E := ?E) (S := ?S) (by kernel_rfl) ?h1 ?h2 ?h3
  case h1 =>
    simp only [pickAI, List.filterMap_cons, List.filterMap_nil, List.getElem?_cons_succ, List.getElem?_cons_zero, List.length_cons, List.length_nil, Nat.reduceAdd]
    simp only [go_sem, m2]
    refine wgA q3 ?_
    simp only [go_sem, e3, m3]
    refine wgR ?_
    simp only [go_sem]
    refine wgE ?_
    simp only [go_sem]
    refine wgE ?_
    simp only [go_sem]
    exact de_ok
  case h2 =>
    simp only [pickAI, List.filterMap_cons, List.filterMap_nil, List.getElem?_cons_succ, List.getElem?_cons_zero, List.length_cons, List.length_nil, Nat.reduceAdd]
    simp only [go_sem, m2z, hl2]
    refine wgR ?_
    simp only [go_sem]
    refine wgA (q3z _) ?_
    simp only [go_sem, e3, m3z]
    refine wgR ?_
    simp only [go_sem]
    refine wgE ?_
    simp only [go_sem]
    exact ds_ok rfl rfl
  case h3 =>
  refine we_meet (by rfl) (fun e σ => e = [(0, .ptr m 0 0), (1, .int .i64 (k : Int)), (4, .ptr s.length 0 0), (5, .ptr s3.length 0 0)] ∧ ∃ op : Int, (1 ≤ op ∧ op ≤ 15) ∧ (k = 0 → ¬ (2 ≤ op ∧ op ≤ 8)) ∧ IS s σ m b s3.length [.int .i64 op, .int .i64 ln, .str [], .str [], .nils, .int .i64 0, .int .i64 0, .str [], .nils, .nils, .nils]) ?_ ?_
  · have hrow : ∀ op : Int, IS s (s3 ++ [.row [.int .i64 op, .int .i64 ln, .str [], .str [], .nils, .int .i64 0, .int .i64 0, .str [], .nils, .nils, .nils] 42 0 0]) m b s3.length [.int .i64 op, .int .i64 ln, .str [], .str [], .nils, .int .i64 0, .int .i64 0, .str [], .nils, .nils, .nils] := fun op => by
      have hl3 : s3.length = s.length + 1 := by rw [l3, e2, e1]; simp
      exact ⟨lw_push (lw_trans w2 w3), by omega, by simp, get_app_some k3, by simp⟩
    by_cases hk0 : k = 0
    · have f1 : ((k : Int) == 0) = true := by simp [hk0]
      by_cases h2 : 1 ≤ r
      · have f2 : ((2 : Int) ≤ ((1 + r : Nat) : Int)) = True := eq_true (by omega)
        by_cases h8 : r ≤ 7
        · have f3 : (((1 + r : Nat) : Int) ≤ 8) = True := eq_true (by omega)
          simp only [go_sem, f1, f2, f3, ge_iff_le]
          exact ⟨rfl, 1, by omega, by omega, hrow 1⟩
        · have f3 : (((1 + r : Nat) : Int) ≤ 8) = False := eq_false (by omega)
          simp only [go_sem, f1, f2, f3, ge_iff_le]
          exact ⟨rfl, _, by omega, by omega, hrow _⟩
      · have f2 : ((2 : Int) ≤ ((1 + r : Nat) : Int)) = False := eq_false (by omega)
        simp only [go_sem, f1, f2, ge_iff_le]
        exact ⟨rfl, _, by omega, by omega, hrow _⟩
    · have f1 : ((k : Int) == 0) = false := by simp [hk0]
      simp only [go_sem, f1]
      exact ⟨rfl, _, by omega, by omega, hrow _⟩
  rintro e s4 ⟨rfl, op, hop, hnk, h4⟩
  generalize s3.length = n5 at h4 ⊢
  have hop : op = 1 ∨ op = 2 ∨ op = 3 ∨ op = 4 ∨ op = 5 ∨ op = 6 ∨ op = 7 ∨ op = 8 ∨ op = 9 ∨ op = 10 ∨ op = 11 ∨ op = 12 ∨ op = 13 ∨ op = 14 ∨ op = 15 := by omega
  clear e1 w1 k1 m1 w1a m1a e2 w2 m2 k2 q3 w3 l3 r3 mm3 q3z m3 k3 hline e3 hl2 m2z m3z
  -- CASES
  rcases hop with rfl | hop
  · have g4 := h4.2.2.2.2
    obtain ⟨_, _, m4⟩ := ls_row h4.1.2.2.1
    obtain ⟨_, s5, q5, ⟨nm, rfl, nml⟩, w5, l5⟩ := llock (rs := [[120], [121], [97], [118], [113]]) (by simp) (by simp) (by kernel_rfl) h4.1.2.2.1
    simp only [List.map_cons, List.map_nil] at q5
    have h5 := is_any h4 w5
    have g5 := h5.2.2.2.2
    obtain ⟨_, _, m5⟩ := ls_row h5.1.2.2.1
    simp only [go_sem, g4, m4, Int.reduceBEq, Int.reduceLE, Int.reduceLT, ge_iff_le]
    refine wx_any q5 ?_
    obtain ⟨s6, e6⟩ : ∃ t : St, t = s5.set n5 (.row [.int .i64 1, .int .i64 ln, .str nm, .str [], .nils, .int .i64 0, .int .i64 0, .str [], .nils, .nils, .nils] 42 0 0) := ⟨_, rfl⟩
    have h6 : IS s s6 m b n5 [.int .i64 1, .int .i64 ln, .str nm, .str [], .nils, .int .i64 0, .int .i64 0, .str [], .nils, .nils, .nils] := by rw [e6]; exact is_set _ h5
    have g6 := h6.2.2.2.2
    obtain ⟨_, _, m6⟩ := ls_row h6.1.2.2.1
    rw [e6] at g6 m6
    by_cases hq : nm = [113]
    · subst hq
      have fq : (([113] : List UInt8) == [113]) = true := by decide
      obtain ⟨j, s7, q7, w7, l7, jb, -⟩ := lnx h6.1.2.2.1 6 6 rfl (by omega)
      have h7 := is_any h6 w7
      rw [e6] at q7
      have g7 := h7.2.2.2.2
      obtain ⟨_, _, m7⟩ := ls_row h7.1.2.2.1
      simp only [go_sem, g4, m4, g5, m5, g6, m6, Int.reduceBEq, Int.reduceLE, Int.reduceLT, ge_iff_le, fq]
      refine wx_any q7 ?_
      by_cases hj : j < 5
      · have fj : ((j : Int) < 5) = True := eq_true (by omega)
        obtain ⟨_, s8, q8, ⟨x, rfl, hx, xl⟩, w8, l8⟩ := lexpr 1 (by omega) _ m b h7.1.2.2.1
        have xr := xrow_def x
        rw [xr, Int.natCast_one] at q8
        have h8 := is_any h7 w8
        have g8 := h8.2.2.2.2
        obtain ⟨_, _, m8⟩ := ls_row h8.1.2.2.1
        simp only [go_sem, g4, m4, g5, m5, g6, m6, g7, m7, Int.reduceBEq, Int.reduceLE, Int.reduceLT, ge_iff_le, fq, fj]
        refine wx_any q8 ?_
        obtain ⟨s9, e9⟩ : ∃ t : St, t = s8.set n5 (.row [.int .i64 1, .int .i64 ln, .str [113], .str [], .lst 1 [[.int .i64 x.op, .int .i64 x.n, .str x.nm, SL x.z x.t (x.l.map Xp.row)]], .int .i64 0, .int .i64 0, .str [], .nils, .nils, .nils] 42 0 0) := ⟨_, rfl⟩
        have h9 : IS s s9 m b n5 [.int .i64 1, .int .i64 ln, .str [113], .str [], .lst 1 [[.int .i64 x.op, .int .i64 x.n, .str x.nm, SL x.z x.t (x.l.map Xp.row)]], .int .i64 0, .int .i64 0, .str [], .nils, .nils, .nils] := by rw [e9]; exact is_set _ h8
        have g9 := h9.2.2.2.2
        obtain ⟨_, _, m9⟩ := ls_row h9.1.2.2.1
        rw [e9] at g9 m9
        obtain ⟨_, s10, q10, ⟨y, rfl, hy, yl⟩, w10, l10⟩ := lexpr 2 (by omega) _ m b h9.1.2.2.1
        have yr := xrow_def y
        rw [yr, Int.cast_ofNat_Int] at q10
        have h10 := is_any h9 w10
        rw [e9] at q10
        have g10 := h10.2.2.2.2
        obtain ⟨_, _, m10⟩ := ls_row h10.1.2.2.1
        simp only [go_sem, g4, m4, g5, m5, g6, m6, g7, m7, g8, m8, g9, m9, Int.reduceBEq, Int.reduceLE, Int.reduceLT, ge_iff_le, fq, fj]
        refine wx_any q10 ?_
        obtain ⟨s11, e11⟩ : ∃ t : St, t = s10.set n5 (.row [.int .i64 1, .int .i64 ln, .str [113], .str [], .lst 1 [[.int .i64 x.op, .int .i64 x.n, .str x.nm, SL x.z x.t (x.l.map Xp.row)]], .int .i64 y.op, .int .i64 y.n, .str y.nm, SL y.z y.t (y.l.map Xp.row), .nils, .nils] 42 0 0) := ⟨_, rfl⟩
        have h11 : IS s s11 m b n5 [.int .i64 1, .int .i64 ln, .str [113], .str [], .lst 1 [[.int .i64 x.op, .int .i64 x.n, .str x.nm, SL x.z x.t (x.l.map Xp.row)]], .int .i64 y.op, .int .i64 y.n, .str y.nm, SL y.z y.t (y.l.map Xp.row), .nils, .nils] := by rw [e11]; exact is_set _ h10
        have g11 := h11.2.2.2.2
        obtain ⟨_, _, m11⟩ := ls_row h11.1.2.2.1
        rw [e11] at g11 m11
        have zz := h11.2.2.2.1
        rw [e11] at zz
        simp only [go_sem, g4, m4, g5, m5, g6, m6, g7, m7, g8, m8, g9, m9, g10, m10, g11, m11, zz, Int.reduceBEq, Int.reduceLE, Int.reduceLT, ge_iff_le, fq, fj]
        refine lw_end (resN (List.getElem?_set_self (by have := h11.2.1; have := h11.2.2.1; rw [e11] at this; omega)) rfl rfl) (set_ok (by simp only [go_sem])) (lw_set (e11 ▸ h11.1) (Nat.le_refl _)) ⟨⟨1, ln, [113], [], true, 1, [x], y, true, 0, [], true, 0, []⟩, by rw [srow11]; simp only [List.map_cons, List.map_nil, xr]; rfl, ?_⟩
        exact sb_mk (by simp) (by simp) (by simp) (by intro y hy; simp at hy; subst hy; exact ⟨hx, xl⟩) (fun _ => ⟨hy, yl⟩) (fun h => by have h : true = false := h; cases h) (.inr ⟨by rfl, nml⟩) (.inl ⟨by simp, by rfl⟩) (fun _ => rfl) (fun _ => rfl) (by intro h; have h : false = true := h; cases h)
      · have fj : ((j : Int) < 5) = False := eq_false (by omega)
        obtain ⟨_, s8, q8, ⟨y, rfl, hy, yl⟩, w8, l8⟩ := lexpr 2 (by omega) _ m b h7.1.2.2.1
        have yr := xrow_def y
        rw [yr, Int.cast_ofNat_Int] at q8
        have h8 := is_any h7 w8
        have g8 := h8.2.2.2.2
        obtain ⟨_, _, m8⟩ := ls_row h8.1.2.2.1
        simp only [go_sem, g4, m4, g5, m5, g6, m6, g7, m7, Int.reduceBEq, Int.reduceLE, Int.reduceLT, ge_iff_le, fq, fj]
        refine wx_any q8 ?_
        obtain ⟨s9, e9⟩ : ∃ t : St, t = s8.set n5 (.row [.int .i64 1, .int .i64 ln, .str [113], .str [], .nils, .int .i64 y.op, .int .i64 y.n, .str y.nm, SL y.z y.t (y.l.map Xp.row), .nils, .nils] 42 0 0) := ⟨_, rfl⟩
        have h9 : IS s s9 m b n5 [.int .i64 1, .int .i64 ln, .str [113], .str [], .nils, .int .i64 y.op, .int .i64 y.n, .str y.nm, SL y.z y.t (y.l.map Xp.row), .nils, .nils] := by rw [e9]; exact is_set _ h8
        have g9 := h9.2.2.2.2
        obtain ⟨_, _, m9⟩ := ls_row h9.1.2.2.1
        rw [e9] at g9 m9
        have zz := h9.2.2.2.1
        rw [e9] at zz
        simp only [go_sem, g4, m4, g5, m5, g6, m6, g7, m7, g8, m8, g9, m9, zz, Int.reduceBEq, Int.reduceLE, Int.reduceLT, ge_iff_le, fq, fj]
        refine lw_end (resN (List.getElem?_set_self (by have := h9.2.1; have := h9.2.2.1; rw [e9] at this; omega)) rfl rfl) (set_ok (by simp only [go_sem])) (lw_set (e9 ▸ h9.1) (Nat.le_refl _)) ⟨⟨1, ln, [113], [], true, 0, [], y, true, 0, [], true, 0, []⟩, by rw [srow11]; rfl, ?_⟩
        exact sb_mk (by simp) (by simp) (by simp) (by simp) (fun _ => ⟨hy, yl⟩) (fun h => by have h : true = false := h; cases h) (.inr ⟨by rfl, nml⟩) (.inl ⟨by simp, by rfl⟩) (fun _ => rfl) (fun _ => rfl) (by intro h; have h : false = true := h; cases h)
    · have fq : (nm == [113]) = false := by simp [hq]
      obtain ⟨_, s7, q7, ⟨y, rfl, hy, yl⟩, w7, l7⟩ := lexpr 2 (by omega) _ m b h6.1.2.2.1
      have yr := xrow_def y
      rw [yr, Int.cast_ofNat_Int] at q7
      have h7 := is_any h6 w7
      rw [e6] at q7
      have g7 := h7.2.2.2.2
      obtain ⟨_, _, m7⟩ := ls_row h7.1.2.2.1
      simp only [go_sem, g4, m4, g5, m5, g6, m6, Int.reduceBEq, Int.reduceLE, Int.reduceLT, ge_iff_le, fq]
      refine wx_any q7 ?_
      obtain ⟨s8, e8⟩ : ∃ t : St, t = s7.set n5 (.row [.int .i64 1, .int .i64 ln, .str nm, .str [], .nils, .int .i64 y.op, .int .i64 y.n, .str y.nm, SL y.z y.t (y.l.map Xp.row), .nils, .nils] 42 0 0) := ⟨_, rfl⟩
      have h8 : IS s s8 m b n5 [.int .i64 1, .int .i64 ln, .str nm, .str [], .nils, .int .i64 y.op, .int .i64 y.n, .str y.nm, SL y.z y.t (y.l.map Xp.row), .nils, .nils] := by rw [e8]; exact is_set _ h7
      have g8 := h8.2.2.2.2
      obtain ⟨_, _, m8⟩ := ls_row h8.1.2.2.1
      rw [e8] at g8 m8
      have zz := h8.2.2.2.1
      rw [e8] at zz
      simp only [go_sem, g4, m4, g5, m5, g6, m6, g7, m7, g8, m8, zz, Int.reduceBEq, Int.reduceLE, Int.reduceLT, ge_iff_le, fq]
      refine lw_end (resN (List.getElem?_set_self (by have := h8.2.1; have := h8.2.2.1; rw [e8] at this; omega)) rfl rfl) (set_ok (by simp only [go_sem])) (lw_set (e8 ▸ h8.1) (Nat.le_refl _)) ⟨⟨1, ln, nm, [], true, 0, [], y, true, 0, [], true, 0, []⟩, by rw [srow11]; rfl, ?_⟩
      exact sb_mk (by simp) (by simp) (by simp) (by simp) (fun _ => ⟨hy, yl⟩) (fun h => by have h : true = false := h; cases h) (.inr ⟨by rfl, nml⟩) (.inl ⟨by simp, by rfl⟩) (fun _ => rfl) (fun _ => rfl) (by intro h; have h : false = true := h; cases h)
  rcases hop with rfl | hop
  · have g4 := h4.2.2.2.2
    obtain ⟨_, _, m4⟩ := ls_row h4.1.2.2.1
    obtain ⟨_, s5, q5, ⟨y, rfl, hy, yl⟩, w5, l5⟩ := lexpr 2 (by omega) _ m b h4.1.2.2.1
    have yr := xrow_def y
    rw [yr, Int.cast_ofNat_Int] at q5
    have h5 := is_any h4 w5
    have g5 := h5.2.2.2.2
    obtain ⟨_, _, m5⟩ := ls_row h5.1.2.2.1
    simp only [go_sem, g4, m4, Int.reduceBEq, Int.reduceLE, Int.reduceLT, ge_iff_le]
    refine wx_any q5 ?_
    obtain ⟨s6, e6⟩ : ∃ t : St, t = s5.set n5 (.row [.int .i64 2, .int .i64 ln, .str [], .str [], .nils, .int .i64 y.op, .int .i64 y.n, .str y.nm, SL y.z y.t (y.l.map Xp.row), .nils, .nils] 42 0 0) := ⟨_, rfl⟩
    have h6 : IS s s6 m b n5 [.int .i64 2, .int .i64 ln, .str [], .str [], .nils, .int .i64 y.op, .int .i64 y.n, .str y.nm, SL y.z y.t (y.l.map Xp.row), .nils, .nils] := by rw [e6]; exact is_set _ h5
    have g6 := h6.2.2.2.2
    obtain ⟨_, _, m6⟩ := ls_row h6.1.2.2.1
    rw [e6] at g6 m6
    have hk0 : k ≠ 0 := fun h => hnk h (by omega)
    have ek : IntKind.i64.wrap ((k : Int) - 1) = ((k - 1 : Nat) : Int) := by rw [wrap64 (by omega)]; omega
    obtain ⟨j, s7, q7, w7, l7, jb, -⟩ := lnx h6.1.2.2.1 3 3 rfl (by omega)
    have h7 := is_any h6 w7
    rw [e6] at q7
    have g7 := h7.2.2.2.2
    obtain ⟨_, _, m7⟩ := ls_row h7.1.2.2.1
    simp only [go_sem, g4, m4, g5, m5, g6, m6, Int.reduceBEq, Int.reduceLE, Int.reduceLT, ge_iff_le]
    refine wx_any q7 ?_
    have en : IntKind.i64.wrap (1 + (j : Int)) = ((1 + j : Nat) : Int) := by rw [wrap64 (by omega)]; omega
    obtain ⟨_, s8, q8, ⟨L, rfl, Ll, LB⟩, w8, l8⟩ := ih hk0 (1 + j) (by omega) _ m b h7.1.2.2.1
    have h8 := is_any h7 w8
    have g8 := h8.2.2.2.2
    obtain ⟨_, _, m8⟩ := ls_row h8.1.2.2.1
    simp only [go_sem, g4, m4, g5, m5, g6, m6, g7, m7, Int.reduceBEq, Int.reduceLE, Int.reduceLT, ge_iff_le, ek, en]
    refine wx_any q8 ?_
    obtain ⟨s9, e9⟩ : ∃ t : St, t = s8.set n5 (.row [.int .i64 2, .int .i64 ln, .str [], .str [], .nils, .int .i64 y.op, .int .i64 y.n, .str y.nm, SL y.z y.t (y.l.map Xp.row), SL true 0 (L.map Sp.row), .nils] 42 0 0) := ⟨_, rfl⟩
    have h9 : IS s s9 m b n5 [.int .i64 2, .int .i64 ln, .str [], .str [], .nils, .int .i64 y.op, .int .i64 y.n, .str y.nm, SL y.z y.t (y.l.map Xp.row), SL true 0 (L.map Sp.row), .nils] := by rw [e9]; exact is_set _ h8
    have g9 := h9.2.2.2.2
    obtain ⟨_, _, m9⟩ := ls_row h9.1.2.2.1
    rw [e9] at g9 m9
    obtain ⟨i, s10, q10, w10, l10, ib, -⟩ := lnx h9.1.2.2.1 3 3 rfl (by omega)
    have h10 := is_any h9 w10
    rw [e9] at q10
    have g10 := h10.2.2.2.2
    obtain ⟨_, _, m10⟩ := ls_row h10.1.2.2.1
    simp only [go_sem, g4, m4, g5, m5, g6, m6, g7, m7, g8, m8, g9, m9, Int.reduceBEq, Int.reduceLE, Int.reduceLT, ge_iff_le, ek, en]
    refine wx_any q10 ?_
    by_cases hi : i = 2
    · subst hi
      obtain ⟨_, s11, q11, ⟨M, rfl, Ml, MB⟩, w11, l11⟩ := ih hk0 1 (by omega) _ m b h10.1.2.2.1
      rw [Int.natCast_one] at q11
      have h11 := is_any h10 w11
      have g11 := h11.2.2.2.2
      obtain ⟨_, _, m11⟩ := ls_row h11.1.2.2.1
      simp only [go_sem, g4, m4, g5, m5, g6, m6, g7, m7, g8, m8, g9, m9, g10, m10, Int.reduceBEq, Int.reduceLE, Int.reduceLT, ge_iff_le, ek, en, Int.cast_ofNat_Int]
      refine wx_any q11 ?_
      obtain ⟨s12, e12⟩ : ∃ t : St, t = s11.set n5 (.row [.int .i64 2, .int .i64 ln, .str [], .str [], .nils, .int .i64 y.op, .int .i64 y.n, .str y.nm, SL y.z y.t (y.l.map Xp.row), SL true 0 (L.map Sp.row), SL true 0 (M.map Sp.row)] 42 0 0) := ⟨_, rfl⟩
      have h12 : IS s s12 m b n5 [.int .i64 2, .int .i64 ln, .str [], .str [], .nils, .int .i64 y.op, .int .i64 y.n, .str y.nm, SL y.z y.t (y.l.map Xp.row), SL true 0 (L.map Sp.row), SL true 0 (M.map Sp.row)] := by rw [e12]; exact is_set _ h11
      have g12 := h12.2.2.2.2
      obtain ⟨_, _, m12⟩ := ls_row h12.1.2.2.1
      rw [e12] at g12 m12
      have zz := h12.2.2.2.1
      rw [e12] at zz
      simp only [go_sem, g4, m4, g5, m5, g6, m6, g7, m7, g8, m8, g9, m9, g10, m10, g11, m11, g12, m12, zz, Int.reduceBEq, Int.reduceLE, Int.reduceLT, ge_iff_le, ek, en, Int.cast_ofNat_Int]
      refine lw_end (resN (List.getElem?_set_self (by have := h12.2.1; have := h12.2.2.1; rw [e12] at this; omega)) rfl rfl) (set_ok (by simp only [go_sem])) (lw_set (e12 ▸ h12.1) (Nat.le_refl _)) ⟨⟨2, ln, [], [], true, 0, [], y, true, 0, L, true, 0, M⟩, by rw [srow11]; rfl, ?_⟩
      exact sb_mk (by simp) (by simp) (by simp) (by simp) (fun _ => ⟨hy, yl⟩) (fun h => by have h : true = false := h; cases h) (.inl ⟨by rfl, by rfl⟩) (.inl ⟨by simp, by rfl⟩) (by intro h; have h : true = false := h; cases h) (fun h => absurd rfl h) (fun _ => ⟨hk0, by simp only; omega, Ml, LB, MB⟩)
    · have fi : ((i : Int) == 2) = false := by simp; omega
      have zz := h10.2.2.2.1
      simp only [go_sem, g4, m4, g5, m5, g6, m6, g7, m7, g8, m8, g9, m9, g10, m10, zz, Int.reduceBEq, Int.reduceLE, Int.reduceLT, ge_iff_le, ek, en, fi]
      refine lw_end (resN (List.getElem?_set_self (by have := h10.2.1; have := h10.2.2.1; omega)) rfl rfl) (set_ok (by simp only [go_sem])) (lw_set (h10.1) (Nat.le_refl _)) ⟨⟨2, ln, [], [], true, 0, [], y, true, 0, L, true, 0, []⟩, by rw [srow11]; rfl, ?_⟩
      exact sb_mk (by simp) (by simp) (by simp) (by simp) (fun _ => ⟨hy, yl⟩) (fun h => by have h : true = false := h; cases h) (.inl ⟨by rfl, by rfl⟩) (.inl ⟨by simp, by rfl⟩) (by intro h; have h : true = false := h; cases h) (fun _ => rfl) (fun _ => ⟨hk0, by simp only; omega, by simp, LB, by simp⟩)
  rcases hop with rfl | hop
  · have g4 := h4.2.2.2.2
    obtain ⟨_, _, m4⟩ := ls_row h4.1.2.2.1
    obtain ⟨_, s5, q5, ⟨y, rfl, hy, yl⟩, w5, l5⟩ := lexpr 2 (by omega) _ m b h4.1.2.2.1
    have yr := xrow_def y
    rw [yr, Int.cast_ofNat_Int] at q5
    have h5 := is_any h4 w5
    have g5 := h5.2.2.2.2
    obtain ⟨_, _, m5⟩ := ls_row h5.1.2.2.1
    simp only [go_sem, g4, m4, Int.reduceBEq, Int.reduceLE, Int.reduceLT, ge_iff_le]
    refine wx_any q5 ?_
    obtain ⟨s6, e6⟩ : ∃ t : St, t = s5.set n5 (.row [.int .i64 3, .int .i64 ln, .str [], .str [], .nils, .int .i64 y.op, .int .i64 y.n, .str y.nm, SL y.z y.t (y.l.map Xp.row), .nils, .nils] 42 0 0) := ⟨_, rfl⟩
    have h6 : IS s s6 m b n5 [.int .i64 3, .int .i64 ln, .str [], .str [], .nils, .int .i64 y.op, .int .i64 y.n, .str y.nm, SL y.z y.t (y.l.map Xp.row), .nils, .nils] := by rw [e6]; exact is_set _ h5
    have g6 := h6.2.2.2.2
    obtain ⟨_, _, m6⟩ := ls_row h6.1.2.2.1
    rw [e6] at g6 m6
    have hk0 : k ≠ 0 := fun h => hnk h (by omega)
    have ek : IntKind.i64.wrap ((k : Int) - 1) = ((k - 1 : Nat) : Int) := by rw [wrap64 (by omega)]; omega
    obtain ⟨j, s7, q7, w7, l7, jb, -⟩ := lnx h6.1.2.2.1 3 3 rfl (by omega)
    have h7 := is_any h6 w7
    rw [e6] at q7
    have g7 := h7.2.2.2.2
    obtain ⟨_, _, m7⟩ := ls_row h7.1.2.2.1
    simp only [go_sem, g4, m4, g5, m5, g6, m6, Int.reduceBEq, Int.reduceLE, Int.reduceLT, ge_iff_le]
    refine wx_any q7 ?_
    have en : IntKind.i64.wrap (1 + (j : Int)) = ((1 + j : Nat) : Int) := by rw [wrap64 (by omega)]; omega
    obtain ⟨_, s8, q8, ⟨L, rfl, Ll, LB⟩, w8, l8⟩ := ih hk0 (1 + j) (by omega) _ m b h7.1.2.2.1
    have h8 := is_any h7 w8
    have g8 := h8.2.2.2.2
    obtain ⟨_, _, m8⟩ := ls_row h8.1.2.2.1
    simp only [go_sem, g4, m4, g5, m5, g6, m6, g7, m7, Int.reduceBEq, Int.reduceLE, Int.reduceLT, ge_iff_le, ek, en]
    refine wx_any q8 ?_
    obtain ⟨s9, e9⟩ : ∃ t : St, t = s8.set n5 (.row [.int .i64 3, .int .i64 ln, .str [], .str [], .nils, .int .i64 y.op, .int .i64 y.n, .str y.nm, SL y.z y.t (y.l.map Xp.row), SL true 0 (L.map Sp.row), .nils] 42 0 0) := ⟨_, rfl⟩
    have h9 : IS s s9 m b n5 [.int .i64 3, .int .i64 ln, .str [], .str [], .nils, .int .i64 y.op, .int .i64 y.n, .str y.nm, SL y.z y.t (y.l.map Xp.row), SL true 0 (L.map Sp.row), .nils] := by rw [e9]; exact is_set _ h8
    have g9 := h9.2.2.2.2
    obtain ⟨_, _, m9⟩ := ls_row h9.1.2.2.1
    rw [e9] at g9 m9
    have zz := h9.2.2.2.1
    rw [e9] at zz
    simp only [go_sem, g4, m4, g5, m5, g6, m6, g7, m7, g8, m8, g9, m9, zz, Int.reduceBEq, Int.reduceLE, Int.reduceLT, ge_iff_le, ek, en]
    refine lw_end (resN (List.getElem?_set_self (by have := h9.2.1; have := h9.2.2.1; rw [e9] at this; omega)) rfl rfl) (set_ok (by simp only [go_sem])) (lw_set (e9 ▸ h9.1) (Nat.le_refl _)) ⟨⟨3, ln, [], [], true, 0, [], y, true, 0, L, true, 0, []⟩, by rw [srow11]; rfl, ?_⟩
    exact sb_mk (by simp) (by simp) (by simp) (by simp) (fun _ => ⟨hy, yl⟩) (fun h => by have h : true = false := h; cases h) (.inl ⟨by rfl, by rfl⟩) (.inl ⟨by simp, by rfl⟩) (by intro h; have h : true = false := h; cases h) (fun _ => rfl) (fun _ => ⟨hk0, by simp only; omega, by simp, LB, by simp⟩)
  rcases hop with rfl | hop
  · have g4 := h4.2.2.2.2
    obtain ⟨_, _, m4⟩ := ls_row h4.1.2.2.1
    obtain ⟨_, s5, q5, ⟨nm, rfl, nml⟩, w5, l5⟩ := llock (rs := [[109], [110]]) (by simp) (by simp) (by kernel_rfl) h4.1.2.2.1
    simp only [List.map_cons, List.map_nil] at q5
    have h5 := is_any h4 w5
    have g5 := h5.2.2.2.2
    obtain ⟨_, _, m5⟩ := ls_row h5.1.2.2.1
    simp only [go_sem, g4, m4, Int.reduceBEq, Int.reduceLE, Int.reduceLT, ge_iff_le]
    refine wx_any q5 ?_
    obtain ⟨s6, e6⟩ : ∃ t : St, t = s5.set n5 (.row [.int .i64 4, .int .i64 ln, .str nm, .str [], .nils, .int .i64 0, .int .i64 0, .str [], .nils, .nils, .nils] 42 0 0) := ⟨_, rfl⟩
    have h6 : IS s s6 m b n5 [.int .i64 4, .int .i64 ln, .str nm, .str [], .nils, .int .i64 0, .int .i64 0, .str [], .nils, .nils, .nils] := by rw [e6]; exact is_set _ h5
    have g6 := h6.2.2.2.2
    obtain ⟨_, _, m6⟩ := ls_row h6.1.2.2.1
    rw [e6] at g6 m6
    have hk0 : k ≠ 0 := fun h => hnk h (by omega)
    have ek : IntKind.i64.wrap ((k : Int) - 1) = ((k - 1 : Nat) : Int) := by rw [wrap64 (by omega)]; omega
    obtain ⟨j, s7, q7, w7, l7, jb, -⟩ := lnx h6.1.2.2.1 3 3 rfl (by omega)
    have h7 := is_any h6 w7
    rw [e6] at q7
    have g7 := h7.2.2.2.2
    obtain ⟨_, _, m7⟩ := ls_row h7.1.2.2.1
    simp only [go_sem, g4, m4, g5, m5, g6, m6, Int.reduceBEq, Int.reduceLE, Int.reduceLT, ge_iff_le]
    refine wx_any q7 ?_
    have en : IntKind.i64.wrap (1 + (j : Int)) = ((1 + j : Nat) : Int) := by rw [wrap64 (by omega)]; omega
    obtain ⟨_, s8, q8, ⟨L, rfl, Ll, LB⟩, w8, l8⟩ := ih hk0 (1 + j) (by omega) _ m b h7.1.2.2.1
    have h8 := is_any h7 w8
    have g8 := h8.2.2.2.2
    obtain ⟨_, _, m8⟩ := ls_row h8.1.2.2.1
    simp only [go_sem, g4, m4, g5, m5, g6, m6, g7, m7, Int.reduceBEq, Int.reduceLE, Int.reduceLT, ge_iff_le, ek, en]
    refine wx_any q8 ?_
    obtain ⟨s9, e9⟩ : ∃ t : St, t = s8.set n5 (.row [.int .i64 4, .int .i64 ln, .str nm, .str [], .nils, .int .i64 0, .int .i64 0, .str [], .nils, SL true 0 (L.map Sp.row), .nils] 42 0 0) := ⟨_, rfl⟩
    have h9 : IS s s9 m b n5 [.int .i64 4, .int .i64 ln, .str nm, .str [], .nils, .int .i64 0, .int .i64 0, .str [], .nils, SL true 0 (L.map Sp.row), .nils] := by rw [e9]; exact is_set _ h8
    have g9 := h9.2.2.2.2
    obtain ⟨_, _, m9⟩ := ls_row h9.1.2.2.1
    rw [e9] at g9 m9
    have zz := h9.2.2.2.1
    rw [e9] at zz
    simp only [go_sem, g4, m4, g5, m5, g6, m6, g7, m7, g8, m8, g9, m9, zz, Int.reduceBEq, Int.reduceLE, Int.reduceLT, ge_iff_le, ek, en]
    refine lw_end (resN (List.getElem?_set_self (by have := h9.2.1; have := h9.2.2.1; rw [e9] at this; omega)) rfl rfl) (set_ok (by simp only [go_sem])) (lw_set (e9 ▸ h9.1) (Nat.le_refl _)) ⟨⟨4, ln, nm, [], true, 0, [], Xp.zero, true, 0, L, true, 0, []⟩, by rw [srow11]; rfl, ?_⟩
    exact sb_mk (by simp) (by simp) (by simp) (by simp) (by simp) (fun _ => ⟨rfl, rfl, rfl, rfl⟩) (.inr ⟨by rfl, nml⟩) (.inl ⟨by simp, by rfl⟩) (by intro h; have h : true = false := h; cases h) (fun _ => rfl) (fun _ => ⟨hk0, by simp only; omega, by simp, LB, by simp⟩)
  rcases hop with rfl | hop
  · have g4 := h4.2.2.2.2
    obtain ⟨_, _, m4⟩ := ls_row h4.1.2.2.1
    obtain ⟨_, s5, q5, ⟨nm, rfl, nml⟩, w5, l5⟩ := llock (rs := [[114]]) (by simp) (by simp) (by kernel_rfl) h4.1.2.2.1
    simp only [List.map_cons, List.map_nil] at q5
    have h5 := is_any h4 w5
    have g5 := h5.2.2.2.2
    obtain ⟨_, _, m5⟩ := ls_row h5.1.2.2.1
    simp only [go_sem, g4, m4, Int.reduceBEq, Int.reduceLE, Int.reduceLT, ge_iff_le]
    refine wx_any q5 ?_
    obtain ⟨s6, e6⟩ : ∃ t : St, t = s5.set n5 (.row [.int .i64 5, .int .i64 ln, .str nm, .str [], .nils, .int .i64 0, .int .i64 0, .str [], .nils, .nils, .nils] 42 0 0) := ⟨_, rfl⟩
    have h6 : IS s s6 m b n5 [.int .i64 5, .int .i64 ln, .str nm, .str [], .nils, .int .i64 0, .int .i64 0, .str [], .nils, .nils, .nils] := by rw [e6]; exact is_set _ h5
    have g6 := h6.2.2.2.2
    obtain ⟨_, _, m6⟩ := ls_row h6.1.2.2.1
    rw [e6] at g6 m6
    have hk0 : k ≠ 0 := fun h => hnk h (by omega)
    have ek : IntKind.i64.wrap ((k : Int) - 1) = ((k - 1 : Nat) : Int) := by rw [wrap64 (by omega)]; omega
    obtain ⟨j, s7, q7, w7, l7, jb, -⟩ := lnx h6.1.2.2.1 3 3 rfl (by omega)
    have h7 := is_any h6 w7
    rw [e6] at q7
    have g7 := h7.2.2.2.2
    obtain ⟨_, _, m7⟩ := ls_row h7.1.2.2.1
    simp only [go_sem, g4, m4, g5, m5, g6, m6, Int.reduceBEq, Int.reduceLE, Int.reduceLT, ge_iff_le]
    refine wx_any q7 ?_
    have en : IntKind.i64.wrap (1 + (j : Int)) = ((1 + j : Nat) : Int) := by rw [wrap64 (by omega)]; omega
    obtain ⟨_, s8, q8, ⟨L, rfl, Ll, LB⟩, w8, l8⟩ := ih hk0 (1 + j) (by omega) _ m b h7.1.2.2.1
    have h8 := is_any h7 w8
    have g8 := h8.2.2.2.2
    obtain ⟨_, _, m8⟩ := ls_row h8.1.2.2.1
    simp only [go_sem, g4, m4, g5, m5, g6, m6, g7, m7, Int.reduceBEq, Int.reduceLE, Int.reduceLT, ge_iff_le, ek, en]
    refine wx_any q8 ?_
    obtain ⟨s9, e9⟩ : ∃ t : St, t = s8.set n5 (.row [.int .i64 5, .int .i64 ln, .str nm, .str [], .nils, .int .i64 0, .int .i64 0, .str [], .nils, SL true 0 (L.map Sp.row), .nils] 42 0 0) := ⟨_, rfl⟩
    have h9 : IS s s9 m b n5 [.int .i64 5, .int .i64 ln, .str nm, .str [], .nils, .int .i64 0, .int .i64 0, .str [], .nils, SL true 0 (L.map Sp.row), .nils] := by rw [e9]; exact is_set _ h8
    have g9 := h9.2.2.2.2
    obtain ⟨_, _, m9⟩ := ls_row h9.1.2.2.1
    rw [e9] at g9 m9
    have zz := h9.2.2.2.1
    rw [e9] at zz
    simp only [go_sem, g4, m4, g5, m5, g6, m6, g7, m7, g8, m8, g9, m9, zz, Int.reduceBEq, Int.reduceLE, Int.reduceLT, ge_iff_le, ek, en]
    refine lw_end (resN (List.getElem?_set_self (by have := h9.2.1; have := h9.2.2.1; rw [e9] at this; omega)) rfl rfl) (set_ok (by simp only [go_sem])) (lw_set (e9 ▸ h9.1) (Nat.le_refl _)) ⟨⟨5, ln, nm, [], true, 0, [], Xp.zero, true, 0, L, true, 0, []⟩, by rw [srow11]; rfl, ?_⟩
    exact sb_mk (by simp) (by simp) (by simp) (by simp) (by simp) (fun _ => ⟨rfl, rfl, rfl, rfl⟩) (.inr ⟨by rfl, nml⟩) (.inl ⟨by simp, by rfl⟩) (by intro h; have h : true = false := h; cases h) (fun _ => rfl) (fun _ => ⟨hk0, by simp only; omega, by simp, LB, by simp⟩)
  rcases hop with rfl | hop
  · have g4 := h4.2.2.2.2
    obtain ⟨_, _, m4⟩ := ls_row h4.1.2.2.1
    obtain ⟨_, s5, q5, ⟨nm, rfl, nml⟩, w5, l5⟩ := llock (rs := [[114]]) (by simp) (by simp) (by kernel_rfl) h4.1.2.2.1
    simp only [List.map_cons, List.map_nil] at q5
    have h5 := is_any h4 w5
    have g5 := h5.2.2.2.2
    obtain ⟨_, _, m5⟩ := ls_row h5.1.2.2.1
    simp only [go_sem, g4, m4, Int.reduceBEq, Int.reduceLE, Int.reduceLT, ge_iff_le]
    refine wx_any q5 ?_
    obtain ⟨s6, e6⟩ : ∃ t : St, t = s5.set n5 (.row [.int .i64 6, .int .i64 ln, .str nm, .str [], .nils, .int .i64 0, .int .i64 0, .str [], .nils, .nils, .nils] 42 0 0) := ⟨_, rfl⟩
    have h6 : IS s s6 m b n5 [.int .i64 6, .int .i64 ln, .str nm, .str [], .nils, .int .i64 0, .int .i64 0, .str [], .nils, .nils, .nils] := by rw [e6]; exact is_set _ h5
    have g6 := h6.2.2.2.2
    obtain ⟨_, _, m6⟩ := ls_row h6.1.2.2.1
    rw [e6] at g6 m6
    have hk0 : k ≠ 0 := fun h => hnk h (by omega)
    have ek : IntKind.i64.wrap ((k : Int) - 1) = ((k - 1 : Nat) : Int) := by rw [wrap64 (by omega)]; omega
    obtain ⟨j, s7, q7, w7, l7, jb, -⟩ := lnx h6.1.2.2.1 3 3 rfl (by omega)
    have h7 := is_any h6 w7
    rw [e6] at q7
    have g7 := h7.2.2.2.2
    obtain ⟨_, _, m7⟩ := ls_row h7.1.2.2.1
    simp only [go_sem, g4, m4, g5, m5, g6, m6, Int.reduceBEq, Int.reduceLE, Int.reduceLT, ge_iff_le]
    refine wx_any q7 ?_
    have en : IntKind.i64.wrap (1 + (j : Int)) = ((1 + j : Nat) : Int) := by rw [wrap64 (by omega)]; omega
    obtain ⟨_, s8, q8, ⟨L, rfl, Ll, LB⟩, w8, l8⟩ := ih hk0 (1 + j) (by omega) _ m b h7.1.2.2.1
    have h8 := is_any h7 w8
    have g8 := h8.2.2.2.2
    obtain ⟨_, _, m8⟩ := ls_row h8.1.2.2.1
    simp only [go_sem, g4, m4, g5, m5, g6, m6, g7, m7, Int.reduceBEq, Int.reduceLE, Int.reduceLT, ge_iff_le, ek, en]
    refine wx_any q8 ?_
    obtain ⟨s9, e9⟩ : ∃ t : St, t = s8.set n5 (.row [.int .i64 6, .int .i64 ln, .str nm, .str [], .nils, .int .i64 0, .int .i64 0, .str [], .nils, SL true 0 (L.map Sp.row), .nils] 42 0 0) := ⟨_, rfl⟩
    have h9 : IS s s9 m b n5 [.int .i64 6, .int .i64 ln, .str nm, .str [], .nils, .int .i64 0, .int .i64 0, .str [], .nils, SL true 0 (L.map Sp.row), .nils] := by rw [e9]; exact is_set _ h8
    have g9 := h9.2.2.2.2
    obtain ⟨_, _, m9⟩ := ls_row h9.1.2.2.1
    rw [e9] at g9 m9
    have zz := h9.2.2.2.1
    rw [e9] at zz
    simp only [go_sem, g4, m4, g5, m5, g6, m6, g7, m7, g8, m8, g9, m9, zz, Int.reduceBEq, Int.reduceLE, Int.reduceLT, ge_iff_le, ek, en]
    refine lw_end (resN (List.getElem?_set_self (by have := h9.2.1; have := h9.2.2.1; rw [e9] at this; omega)) rfl rfl) (set_ok (by simp only [go_sem])) (lw_set (e9 ▸ h9.1) (Nat.le_refl _)) ⟨⟨6, ln, nm, [], true, 0, [], Xp.zero, true, 0, L, true, 0, []⟩, by rw [srow11]; rfl, ?_⟩
    exact sb_mk (by simp) (by simp) (by simp) (by simp) (by simp) (fun _ => ⟨rfl, rfl, rfl, rfl⟩) (.inr ⟨by rfl, nml⟩) (.inl ⟨by simp, by rfl⟩) (by intro h; have h : true = false := h; cases h) (fun _ => rfl) (fun _ => ⟨hk0, by simp only; omega, by simp, LB, by simp⟩)
  rcases hop with rfl | hop
  · have g4 := h4.2.2.2.2
    obtain ⟨_, _, m4⟩ := ls_row h4.1.2.2.1
    have hk0 : k ≠ 0 := fun h => hnk h (by omega)
    have ek : IntKind.i64.wrap ((k : Int) - 1) = ((k - 1 : Nat) : Int) := by rw [wrap64 (by omega)]; omega
    obtain ⟨j, s5, q5, w5, l5, jb, -⟩ := lnx h4.1.2.2.1 3 3 rfl (by omega)
    have h5 := is_any h4 w5
    have g5 := h5.2.2.2.2
    obtain ⟨_, _, m5⟩ := ls_row h5.1.2.2.1
    simp only [go_sem, g4, m4, Int.reduceBEq, Int.reduceLE, Int.reduceLT, ge_iff_le]
    refine wx_any q5 ?_
    have en : IntKind.i64.wrap (1 + (j : Int)) = ((1 + j : Nat) : Int) := by rw [wrap64 (by omega)]; omega
    obtain ⟨_, s6, q6, ⟨L, rfl, Ll, LB⟩, w6, l6⟩ := ih hk0 (1 + j) (by omega) _ m b h5.1.2.2.1
    have h6 := is_any h5 w6
    have g6 := h6.2.2.2.2
    obtain ⟨_, _, m6⟩ := ls_row h6.1.2.2.1
    simp only [go_sem, g4, m4, g5, m5, Int.reduceBEq, Int.reduceLE, Int.reduceLT, ge_iff_le, ek, en]
    refine wx_any q6 ?_
    obtain ⟨s7, e7⟩ : ∃ t : St, t = s6.set n5 (.row [.int .i64 7, .int .i64 ln, .str [], .str [], .nils, .int .i64 0, .int .i64 0, .str [], .nils, SL true 0 (L.map Sp.row), .nils] 42 0 0) := ⟨_, rfl⟩
    have h7 : IS s s7 m b n5 [.int .i64 7, .int .i64 ln, .str [], .str [], .nils, .int .i64 0, .int .i64 0, .str [], .nils, SL true 0 (L.map Sp.row), .nils] := by rw [e7]; exact is_set _ h6
    have g7 := h7.2.2.2.2
    obtain ⟨_, _, m7⟩ := ls_row h7.1.2.2.1
    rw [e7] at g7 m7
    have zz := h7.2.2.2.1
    rw [e7] at zz
    simp only [go_sem, g4, m4, g5, m5, g6, m6, g7, m7, zz, Int.reduceBEq, Int.reduceLE, Int.reduceLT, ge_iff_le, ek, en]
    refine lw_end (resN (List.getElem?_set_self (by have := h7.2.1; have := h7.2.2.1; rw [e7] at this; omega)) rfl rfl) (set_ok (by simp only [go_sem])) (lw_set (e7 ▸ h7.1) (Nat.le_refl _)) ⟨⟨7, ln, [], [], true, 0, [], Xp.zero, true, 0, L, true, 0, []⟩, by rw [srow11]; rfl, ?_⟩
    exact sb_mk (by simp) (by simp) (by simp) (by simp) (by simp) (fun _ => ⟨rfl, rfl, rfl, rfl⟩) (.inl ⟨by rfl, by rfl⟩) (.inl ⟨by simp, by rfl⟩) (by intro h; have h : true = false := h; cases h) (fun _ => rfl) (fun _ => ⟨hk0, by simp only; omega, by simp, LB, by simp⟩)
  rcases hop with rfl | hop
  · have g4 := h4.2.2.2.2
    obtain ⟨_, _, m4⟩ := ls_row h4.1.2.2.1
    have hk0 : k ≠ 0 := fun h => hnk h (by omega)
    have ek : IntKind.i64.wrap ((k : Int) - 1) = ((k - 1 : Nat) : Int) := by rw [wrap64 (by omega)]; omega
    obtain ⟨j, s5, q5, w5, l5, jb, -⟩ := lnx h4.1.2.2.1 3 3 rfl (by omega)
    have h5 := is_any h4 w5
    have g5 := h5.2.2.2.2
    obtain ⟨_, _, m5⟩ := ls_row h5.1.2.2.1
    simp only [go_sem, g4, m4, Int.reduceBEq, Int.reduceLE, Int.reduceLT, ge_iff_le]
    refine wx_any q5 ?_
    have en : IntKind.i64.wrap (1 + (j : Int)) = ((1 + j : Nat) : Int) := by rw [wrap64 (by omega)]; omega
    obtain ⟨_, s6, q6, ⟨L, rfl, Ll, LB⟩, w6, l6⟩ := ih hk0 (1 + j) (by omega) _ m b h5.1.2.2.1
    have h6 := is_any h5 w6
    have g6 := h6.2.2.2.2
    obtain ⟨_, _, m6⟩ := ls_row h6.1.2.2.1
    simp only [go_sem, g4, m4, g5, m5, Int.reduceBEq, Int.reduceLE, Int.reduceLT, ge_iff_le, ek, en]
    refine wx_any q6 ?_
    obtain ⟨s7, e7⟩ : ∃ t : St, t = s6.set n5 (.row [.int .i64 8, .int .i64 ln, .str [], .str [], .nils, .int .i64 0, .int .i64 0, .str [], .nils, SL true 0 (L.map Sp.row), .nils] 42 0 0) := ⟨_, rfl⟩
    have h7 : IS s s7 m b n5 [.int .i64 8, .int .i64 ln, .str [], .str [], .nils, .int .i64 0, .int .i64 0, .str [], .nils, SL true 0 (L.map Sp.row), .nils] := by rw [e7]; exact is_set _ h6
    have g7 := h7.2.2.2.2
    obtain ⟨_, _, m7⟩ := ls_row h7.1.2.2.1
    rw [e7] at g7 m7
    have zz := h7.2.2.2.1
    rw [e7] at zz
    simp only [go_sem, g4, m4, g5, m5, g6, m6, g7, m7, zz, Int.reduceBEq, Int.reduceLE, Int.reduceLT, ge_iff_le, ek, en]
    refine lw_end (resN (List.getElem?_set_self (by have := h7.2.1; have := h7.2.2.1; rw [e7] at this; omega)) rfl rfl) (set_ok (by simp only [go_sem])) (lw_set (e7 ▸ h7.1) (Nat.le_refl _)) ⟨⟨8, ln, [], [], true, 0, [], Xp.zero, true, 0, L, true, 0, []⟩, by rw [srow11]; rfl, ?_⟩
    exact sb_mk (by simp) (by simp) (by simp) (by simp) (by simp) (fun _ => ⟨rfl, rfl, rfl, rfl⟩) (.inl ⟨by rfl, by rfl⟩) (.inl ⟨by simp, by rfl⟩) (by intro h; have h : true = false := h; cases h) (fun _ => rfl) (fun _ => ⟨hk0, by simp only; omega, by simp, LB, by simp⟩)
  rcases hop with rfl | hop
  · have g4 := h4.2.2.2.2
    obtain ⟨_, _, m4⟩ := ls_row h4.1.2.2.1
    obtain ⟨_, s5, q5, ⟨nm, rfl, nml⟩, w5, l5⟩ := llock (rs := [[99]]) (by simp) (by simp) (by kernel_rfl) h4.1.2.2.1
    simp only [List.map_cons, List.map_nil] at q5
    have h5 := is_any h4 w5
    have g5 := h5.2.2.2.2
    obtain ⟨_, _, m5⟩ := ls_row h5.1.2.2.1
    simp only [go_sem, g4, m4, Int.reduceBEq, Int.reduceLE, Int.reduceLT, ge_iff_le]
    refine wx_any q5 ?_
    obtain ⟨s6, e6⟩ : ∃ t : St, t = s5.set n5 (.row [.int .i64 9, .int .i64 ln, .str nm, .str [], .nils, .int .i64 0, .int .i64 0, .str [], .nils, .nils, .nils] 42 0 0) := ⟨_, rfl⟩
    have h6 : IS s s6 m b n5 [.int .i64 9, .int .i64 ln, .str nm, .str [], .nils, .int .i64 0, .int .i64 0, .str [], .nils, .nils, .nils] := by rw [e6]; exact is_set _ h5
    have g6 := h6.2.2.2.2
    obtain ⟨_, _, m6⟩ := ls_row h6.1.2.2.1
    rw [e6] at g6 m6
    have zz := h6.2.2.2.1
    rw [e6] at zz
    simp only [go_sem, g4, m4, g5, m5, g6, m6, zz, Int.reduceBEq, Int.reduceLE, Int.reduceLT, ge_iff_le]
    refine lw_end (resN (List.getElem?_set_self (by have := h6.2.1; have := h6.2.2.1; rw [e6] at this; omega)) rfl rfl) (set_ok (by simp only [go_sem])) (lw_set (e6 ▸ h6.1) (Nat.le_refl _)) ⟨⟨9, ln, nm, [], true, 0, [], Xp.zero, true, 0, [], true, 0, []⟩, by rw [srow11]; rfl, ?_⟩
    exact sb_mk (by simp) (by simp) (by simp) (by simp) (by simp) (fun _ => ⟨rfl, rfl, rfl, rfl⟩) (.inr ⟨by rfl, nml⟩) (.inl ⟨by simp, by rfl⟩) (fun _ => rfl) (fun _ => rfl) (by intro h; have h : false = true := h; cases h)
  rcases hop with rfl | hop
  · have g4 := h4.2.2.2.2
    obtain ⟨_, _, m4⟩ := ls_row h4.1.2.2.1
    obtain ⟨_, s5, q5, ⟨nm, rfl, nml⟩, w5, l5⟩ := llock (rs := [[99]]) (by simp) (by simp) (by kernel_rfl) h4.1.2.2.1
    simp only [List.map_cons, List.map_nil] at q5
    have h5 := is_any h4 w5
    have g5 := h5.2.2.2.2
    obtain ⟨_, _, m5⟩ := ls_row h5.1.2.2.1
    simp only [go_sem, g4, m4, Int.reduceBEq, Int.reduceLE, Int.reduceLT, ge_iff_le]
    refine wx_any q5 ?_
    obtain ⟨s6, e6⟩ : ∃ t : St, t = s5.set n5 (.row [.int .i64 10, .int .i64 ln, .str nm, .str [], .nils, .int .i64 0, .int .i64 0, .str [], .nils, .nils, .nils] 42 0 0) := ⟨_, rfl⟩
    have h6 : IS s s6 m b n5 [.int .i64 10, .int .i64 ln, .str nm, .str [], .nils, .int .i64 0, .int .i64 0, .str [], .nils, .nils, .nils] := by rw [e6]; exact is_set _ h5
    have g6 := h6.2.2.2.2
    obtain ⟨_, _, m6⟩ := ls_row h6.1.2.2.1
    rw [e6] at g6 m6
    have zz := h6.2.2.2.1
    rw [e6] at zz
    simp only [go_sem, g4, m4, g5, m5, g6, m6, zz, Int.reduceBEq, Int.reduceLE, Int.reduceLT, ge_iff_le]
    refine lw_end (resN (List.getElem?_set_self (by have := h6.2.1; have := h6.2.2.1; rw [e6] at this; omega)) rfl rfl) (set_ok (by simp only [go_sem])) (lw_set (e6 ▸ h6.1) (Nat.le_refl _)) ⟨⟨10, ln, nm, [], true, 0, [], Xp.zero, true, 0, [], true, 0, []⟩, by rw [srow11]; rfl, ?_⟩
    exact sb_mk (by simp) (by simp) (by simp) (by simp) (by simp) (fun _ => ⟨rfl, rfl, rfl, rfl⟩) (.inr ⟨by rfl, nml⟩) (.inl ⟨by simp, by rfl⟩) (fun _ => rfl) (fun _ => rfl) (by intro h; have h : false = true := h; cases h)
  rcases hop with rfl | hop
  · have g4 := h4.2.2.2.2
    obtain ⟨_, _, m4⟩ := ls_row h4.1.2.2.1
    obtain ⟨_, s5, q5, ⟨nm, rfl, nml⟩, w5, l5⟩ := llock (rs := [[99]]) (by simp) (by simp) (by kernel_rfl) h4.1.2.2.1
    simp only [List.map_cons, List.map_nil] at q5
    have h5 := is_any h4 w5
    have g5 := h5.2.2.2.2
    obtain ⟨_, _, m5⟩ := ls_row h5.1.2.2.1
    simp only [go_sem, g4, m4, Int.reduceBEq, Int.reduceLE, Int.reduceLT, ge_iff_le]
    refine wx_any q5 ?_
    obtain ⟨s6, e6⟩ : ∃ t : St, t = s5.set n5 (.row [.int .i64 11, .int .i64 ln, .str nm, .str [], .nils, .int .i64 0, .int .i64 0, .str [], .nils, .nils, .nils] 42 0 0) := ⟨_, rfl⟩
    have h6 : IS s s6 m b n5 [.int .i64 11, .int .i64 ln, .str nm, .str [], .nils, .int .i64 0, .int .i64 0, .str [], .nils, .nils, .nils] := by rw [e6]; exact is_set _ h5
    have g6 := h6.2.2.2.2
    obtain ⟨_, _, m6⟩ := ls_row h6.1.2.2.1
    rw [e6] at g6 m6
    have zz := h6.2.2.2.1
    rw [e6] at zz
    simp only [go_sem, g4, m4, g5, m5, g6, m6, zz, Int.reduceBEq, Int.reduceLE, Int.reduceLT, ge_iff_le]
    refine lw_end (resN (List.getElem?_set_self (by have := h6.2.1; have := h6.2.2.1; rw [e6] at this; omega)) rfl rfl) (set_ok (by simp only [go_sem])) (lw_set (e6 ▸ h6.1) (Nat.le_refl _)) ⟨⟨11, ln, nm, [], true, 0, [], Xp.zero, true, 0, [], true, 0, []⟩, by rw [srow11]; rfl, ?_⟩
    exact sb_mk (by simp) (by simp) (by simp) (by simp) (by simp) (fun _ => ⟨rfl, rfl, rfl, rfl⟩) (.inr ⟨by rfl, nml⟩) (.inl ⟨by simp, by rfl⟩) (fun _ => rfl) (fun _ => rfl) (by intro h; have h : false = true := h; cases h)
  rcases hop with rfl | hop
  · have g4 := h4.2.2.2.2
    obtain ⟨_, _, m4⟩ := ls_row h4.1.2.2.1
    obtain ⟨_, s5, q5, ⟨nm, rfl, nml⟩, w5, l5⟩ := llock (rs := [[116], [117], [119]]) (by simp) (by simp) (by kernel_rfl) h4.1.2.2.1
    simp only [List.map_cons, List.map_nil] at q5
    have h5 := is_any h4 w5
    have g5 := h5.2.2.2.2
    obtain ⟨_, _, m5⟩ := ls_row h5.1.2.2.1
    simp only [go_sem, g4, m4, Int.reduceBEq, Int.reduceLE, Int.reduceLT, ge_iff_le]
    refine wx_any q5 ?_
    obtain ⟨s6, e6⟩ : ∃ t : St, t = s5.set n5 (.row [.int .i64 12, .int .i64 ln, .str nm, .str [], .nils, .int .i64 0, .int .i64 0, .str [], .nils, .nils, .nils] 42 0 0) := ⟨_, rfl⟩
    have h6 : IS s s6 m b n5 [.int .i64 12, .int .i64 ln, .str nm, .str [], .nils, .int .i64 0, .int .i64 0, .str [], .nils, .nils, .nils] := by rw [e6]; exact is_set _ h5
    have g6 := h6.2.2.2.2
    obtain ⟨_, _, m6⟩ := ls_row h6.1.2.2.1
    rw [e6] at g6 m6
    have zz := h6.2.2.2.1
    rw [e6] at zz
    simp only [go_sem, g4, m4, g5, m5, g6, m6, zz, Int.reduceBEq, Int.reduceLE, Int.reduceLT, ge_iff_le]
    refine lw_end (resN (List.getElem?_set_self (by have := h6.2.1; have := h6.2.2.1; rw [e6] at this; omega)) rfl rfl) (set_ok (by simp only [go_sem])) (lw_set (e6 ▸ h6.1) (Nat.le_refl _)) ⟨⟨12, ln, nm, [], true, 0, [], Xp.zero, true, 0, [], true, 0, []⟩, by rw [srow11]; rfl, ?_⟩
    exact sb_mk (by simp) (by simp) (by simp) (by simp) (by simp) (fun _ => ⟨rfl, rfl, rfl, rfl⟩) (.inr ⟨by rfl, nml⟩) (.inl ⟨by simp, by rfl⟩) (fun _ => rfl) (fun _ => rfl) (by intro h; have h : false = true := h; cases h)
  rcases hop with rfl | hop
  · have g4 := h4.2.2.2.2
    obtain ⟨_, _, m4⟩ := ls_row h4.1.2.2.1
    obtain ⟨_, s5, q5, ⟨nm, rfl, nml⟩, w5, l5⟩ := llock (rs := [[116], [117], [119]]) (by simp) (by simp) (by kernel_rfl) h4.1.2.2.1
    simp only [List.map_cons, List.map_nil] at q5
    have h5 := is_any h4 w5
    have g5 := h5.2.2.2.2
    obtain ⟨_, _, m5⟩ := ls_row h5.1.2.2.1
    simp only [go_sem, g4, m4, Int.reduceBEq, Int.reduceLE, Int.reduceLT, ge_iff_le]
    refine wx_any q5 ?_
    obtain ⟨s6, e6⟩ : ∃ t : St, t = s5.set n5 (.row [.int .i64 13, .int .i64 ln, .str nm, .str [], .nils, .int .i64 0, .int .i64 0, .str [], .nils, .nils, .nils] 42 0 0) := ⟨_, rfl⟩
    have h6 : IS s s6 m b n5 [.int .i64 13, .int .i64 ln, .str nm, .str [], .nils, .int .i64 0, .int .i64 0, .str [], .nils, .nils, .nils] := by rw [e6]; exact is_set _ h5
    have g6 := h6.2.2.2.2
    obtain ⟨_, _, m6⟩ := ls_row h6.1.2.2.1
    rw [e6] at g6 m6
    have zz := h6.2.2.2.1
    rw [e6] at zz
    simp only [go_sem, g4, m4, g5, m5, g6, m6, zz, Int.reduceBEq, Int.reduceLE, Int.reduceLT, ge_iff_le]
    refine lw_end (resN (List.getElem?_set_self (by have := h6.2.1; have := h6.2.2.1; rw [e6] at this; omega)) rfl rfl) (set_ok (by simp only [go_sem])) (lw_set (e6 ▸ h6.1) (Nat.le_refl _)) ⟨⟨13, ln, nm, [], true, 0, [], Xp.zero, true, 0, [], true, 0, []⟩, by rw [srow11]; rfl, ?_⟩
    exact sb_mk (by simp) (by simp) (by simp) (by simp) (by simp) (fun _ => ⟨rfl, rfl, rfl, rfl⟩) (.inr ⟨by rfl, nml⟩) (.inl ⟨by simp, by rfl⟩) (fun _ => rfl) (fun _ => rfl) (by intro h; have h : false = true := h; cases h)
  rcases hop with rfl | hop
  · have g4 := h4.2.2.2.2
    obtain ⟨_, _, m4⟩ := ls_row h4.1.2.2.1
    obtain ⟨_, s5, q5, ⟨nm, rfl, nml⟩, w5, l5⟩ := llock (rs := [[102]]) (by simp) (by simp) (by kernel_rfl) h4.1.2.2.1
    simp only [List.map_cons, List.map_nil] at q5
    have h5 := is_any h4 w5
    have g5 := h5.2.2.2.2
    obtain ⟨_, _, m5⟩ := ls_row h5.1.2.2.1
    simp only [go_sem, g4, m4, Int.reduceBEq, Int.reduceLE, Int.reduceLT, ge_iff_le]
    refine wx_any q5 ?_
    obtain ⟨s6, e6⟩ : ∃ t : St, t = s5.set n5 (.row [.int .i64 14, .int .i64 ln, .str nm, .str [], .nils, .int .i64 0, .int .i64 0, .str [], .nils, .nils, .nils] 42 0 0) := ⟨_, rfl⟩
    have h6 : IS s s6 m b n5 [.int .i64 14, .int .i64 ln, .str nm, .str [], .nils, .int .i64 0, .int .i64 0, .str [], .nils, .nils, .nils] := by rw [e6]; exact is_set _ h5
    have g6 := h6.2.2.2.2
    obtain ⟨_, _, m6⟩ := ls_row h6.1.2.2.1
    rw [e6] at g6 m6
    obtain ⟨_, s7, q7, ⟨y, rfl, hy, yl⟩, w7, l7⟩ := lexpr 1 (by omega) _ m b h6.1.2.2.1
    have yr := xrow_def y
    rw [yr, Int.natCast_one] at q7
    have h7 := is_any h6 w7
    rw [e6] at q7
    have g7 := h7.2.2.2.2
    obtain ⟨_, _, m7⟩ := ls_row h7.1.2.2.1
    simp only [go_sem, g4, m4, g5, m5, g6, m6, Int.reduceBEq, Int.reduceLE, Int.reduceLT, ge_iff_le]
    refine wx_any q7 ?_
    obtain ⟨s8, e8⟩ : ∃ t : St, t = s7.set n5 (.row [.int .i64 14, .int .i64 ln, .str nm, .str [], .nils, .int .i64 y.op, .int .i64 y.n, .str y.nm, SL y.z y.t (y.l.map Xp.row), .nils, .nils] 42 0 0) := ⟨_, rfl⟩
    have h8 : IS s s8 m b n5 [.int .i64 14, .int .i64 ln, .str nm, .str [], .nils, .int .i64 y.op, .int .i64 y.n, .str y.nm, SL y.z y.t (y.l.map Xp.row), .nils, .nils] := by rw [e8]; exact is_set _ h7
    have g8 := h8.2.2.2.2
    obtain ⟨_, _, m8⟩ := ls_row h8.1.2.2.1
    rw [e8] at g8 m8
    have zz := h8.2.2.2.1
    rw [e8] at zz
    simp only [go_sem, g4, m4, g5, m5, g6, m6, g7, m7, g8, m8, zz, Int.reduceBEq, Int.reduceLE, Int.reduceLT, ge_iff_le]
    refine lw_end (resN (List.getElem?_set_self (by have := h8.2.1; have := h8.2.2.1; rw [e8] at this; omega)) rfl rfl) (set_ok (by simp only [go_sem])) (lw_set (e8 ▸ h8.1) (Nat.le_refl _)) ⟨⟨14, ln, nm, [], true, 0, [], y, true, 0, [], true, 0, []⟩, by rw [srow11]; rfl, ?_⟩
    exact sb_mk (by simp) (by simp) (by simp) (by simp) (fun _ => ⟨hy, Nat.le_trans yl (by decide)⟩) (fun h => by have h : true = false := h; cases h) (.inr ⟨by rfl, nml⟩) (.inl ⟨by simp, by rfl⟩) (fun _ => rfl) (fun _ => rfl) (by intro h; have h : false = true := h; cases h)
  subst hop
  have g4 := h4.2.2.2.2
  obtain ⟨_, _, m4⟩ := ls_row h4.1.2.2.1
  obtain ⟨_, s5, q5, ⟨nm, rfl, nml⟩, w5, l5⟩ := llock (rs := [[97]]) (by simp) (by simp) (by kernel_rfl) h4.1.2.2.1
  simp only [List.map_cons, List.map_nil] at q5
  have h5 := is_any h4 w5
  have g5 := h5.2.2.2.2
  obtain ⟨_, _, m5⟩ := ls_row h5.1.2.2.1
  simp only [go_sem, g4, m4, Int.reduceBEq, Int.reduceLE, Int.reduceLT, ge_iff_le]
  refine wx_any q5 ?_
  obtain ⟨s6, e6⟩ : ∃ t : St, t = s5.set n5 (.row [.int .i64 15, .int .i64 ln, .str nm, .str [], .nils, .int .i64 0, .int .i64 0, .str [], .nils, .nils, .nils] 42 0 0) := ⟨_, rfl⟩
  have h6 : IS s s6 m b n5 [.int .i64 15, .int .i64 ln, .str nm, .str [], .nils, .int .i64 0, .int .i64 0, .str [], .nils, .nils, .nils] := by rw [e6]; exact is_set _ h5
  have g6 := h6.2.2.2.2
  obtain ⟨_, _, m6⟩ := ls_row h6.1.2.2.1
  rw [e6] at g6 m6
  obtain ⟨_, s7, q7, ⟨ar, rfl, arl⟩, w7, l7⟩ := llock (rs := [[102]]) (by simp) (by simp) (by kernel_rfl) h6.1.2.2.1
  simp only [List.map_cons, List.map_nil] at q7
  have h7 := is_any h6 w7
  rw [e6] at q7
  have g7 := h7.2.2.2.2
  obtain ⟨_, _, m7⟩ := ls_row h7.1.2.2.1
  simp only [go_sem, g4, m4, g5, m5, g6, m6, Int.reduceBEq, Int.reduceLE, Int.reduceLT, ge_iff_le]
  refine wx_any q7 ?_
  obtain ⟨s8, e8⟩ : ∃ t : St, t = s7.set n5 (.row [.int .i64 15, .int .i64 ln, .str nm, .str ar, .nils, .int .i64 0, .int .i64 0, .str [], .nils, .nils, .nils] 42 0 0) := ⟨_, rfl⟩
  have h8 : IS s s8 m b n5 [.int .i64 15, .int .i64 ln, .str nm, .str ar, .nils, .int .i64 0, .int .i64 0, .str [], .nils, .nils, .nils] := by rw [e8]; exact is_set _ h7
  have g8 := h8.2.2.2.2
  obtain ⟨_, _, m8⟩ := ls_row h8.1.2.2.1
  rw [e8] at g8 m8
  have zz := h8.2.2.2.1
  rw [e8] at zz
  simp only [go_sem, g4, m4, g5, m5, g6, m6, g7, m7, g8, m8, zz, Int.reduceBEq, Int.reduceLE, Int.reduceLT, ge_iff_le]
  refine lw_end (resN (List.getElem?_set_self (by have := h8.2.1; have := h8.2.2.1; rw [e8] at this; omega)) rfl rfl) (set_ok (by simp only [go_sem])) (lw_set (e8 ▸ h8.1) (Nat.le_refl _)) ⟨⟨15, ln, nm, ar, true, 0, [], Xp.zero, true, 0, [], true, 0, []⟩, by rw [srow11]; rfl, ?_⟩
  exact sb_mk (by simp) (by simp) (by simp) (by simp) (by simp) (fun _ => ⟨rfl, rfl, rfl, rfl⟩) (.inr ⟨by rfl, nml⟩) (.inr ⟨by rfl, arl⟩) (fun _ => rfl) (fun _ => rfl) (by intro h; have h : false = true := h; cases h)
/-! end of the cases -/
theorem lstmt : ∀ k, k ≤ 10 → ∀ (s : St) (m b : Nat), LS s m b → LSt k m b s
  | 0, hk, s, m, b, h => lstmt_step hk (fun h => absurd rfl h) h
  | k + 1, hk, s, m, b, h => lstmt_step hk (fun _ n hn _ _ _ h => lstmts (lstmt k (by omega)) n hn h) h
end Go.Proofs.YtlehfgdhebapeaaDoor.KM
