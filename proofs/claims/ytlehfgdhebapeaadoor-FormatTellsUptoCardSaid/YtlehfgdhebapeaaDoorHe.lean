/- Walks: loose declarations. -/
import Derived.Test.YtlehfgdhebapeaaDoorHd
import Derived.Test.YtlehfgdhebapeaaDoorLc
set_option linter.all false
namespace Go.Proofs.YtlehfgdhebapeaaDoor.KM
open Go
/-- three effects, of which one has no place among the other two -/
theorem w_drw3 {T : Nat → Option AF} {pr : Nat → Option (List V → Option V)} {deps : List (List Nat)} {ops : List AI} {kill : List Nat} {k : List It} {e : Env} {σ : St} {Q : Env → St → Prop} (a b c : Nat) (P1 P2 P3 : List Nat) (d1 d2 d3 : List (List Nat)) {E : Env} {S : St}
    (hp : ((deps.length == ops.length) && ((List.range ops.length).all fun j => (deps.getD j []).all fun d => decide (d < j)) && (a == b) == false && (a == c) == false && permB deps d1 [(a, b)] ops.length P1 && permB deps d2 [(a, c), (b, a)] ops.length P2 && permB deps d3 [(c, a), (b, a)] ops.length P3 && statP d1 (pickAI ops P1) && statP d2 (pickAI ops P2) && statP d3 (pickAI ops P3) && (pickAI ops P1).length == ops.length && (pickAI ops P2).length == ops.length && (pickAI ops P3).length == ops.length) = true)
    (h1 : wg T pr d1 (pickAI ops P1).length [] [] (DE E S) 0 (pickAI ops P1) e σ [] [])
    (h2 : wg T pr d2 (pickAI ops P2).length [] [] (DS E S) 0 (pickAI ops P2) e σ [] [])
    (h3 : wg T pr d3 (pickAI ops P3).length [] [] (DS E S) 0 (pickAI ops P3) e σ [] [])
    (h : WE T pr (E.del kill) k S Q) : W T pr (.c (.drw kill deps ops) :: k) e σ Q := by
  simp only [Bool.and_eq_true, beq_iff_eq] at hp
  obtain ⟨⟨⟨⟨⟨⟨⟨⟨⟨⟨⟨⟨hs1, hs2⟩, hab⟩, hac⟩, p1⟩, p2⟩, p3⟩, s1⟩, s2⟩, s3⟩, l1⟩, l2⟩, l3⟩ := hp
  have fin : ∀ {e1 : Env} {σ1 : St} {P : Env → St → Prop}, W T pr [] (e1.del []) σ1 P → P e1 σ1 := fun {e1 σ1 P} h => by
    have hd : ∀ e : Env, e.del [] = e := fun e => by
      induction e with
      | nil => rfl
      | cons p r ih => obtain ⟨m, v⟩ := p; simp only [Env.del, List.elem_nil, Bool.false_eq_true, if_false, ih]
    rw [hd, w_nil] at h
    exact h
  obtain ⟨e1, σ1, t1, g1⟩ := wg_ok _ _ _ _ _ _ h1
  obtain ⟨rfl, rfl⟩ := fin g1
  obtain ⟨e2, σ2, t2, g3⟩ := wg_ok _ _ _ _ _ _ h2
  obtain ⟨g4, rfl⟩ := fin g3
  obtain ⟨e3, σ3, t3, g5⟩ := wg_ok _ _ _ _ _ _ h3
  obtain ⟨g6, rfl⟩ := fin g5
  refine w_drwX ?_ ⟨_, _, dr_split a b (by simpa using hab) (dr_leaf P1 d1 _ rfl l1 p1 s1 t1 fun _ => rfl) (dr_split a c (by simpa using hac) (dr_leaf P2 d2 _ rfl l2 p2 s2 t2 (get_same g4)) (dr_leaf P3 d3 _ rfl l3 p3 s3 t3 (get_same g6))), h⟩
  simp only [Bool.and_eq_true, beq_iff_eq]
  exact ⟨hs1, hs2⟩
theorem pick_mem (l : List Int) {j : Nat} (hj : j < l.length) : ∃ n, (l.map fun x => [V.int .i64 x])[j]? = some [.int .i64 n] ∧ n ∈ l :=
  ⟨l[j], by rw [List.getElem?_map, List.getElem?_eq_getElem hj]; rfl, List.getElem_mem hj⟩
/-- what lies in a maker of declarations -/
def DQS (s σ : St) (m b n4 : Nat) (row : List V) : Prop := LW s σ m b ∧ s.length < n4 ∧ n4 < σ.length ∧ σ[s.length]? = some (.row [.int .i64 0, .int .i64 0, .str [], .int .i64 0, .int .i64 0, .str []] 60 0 0) ∧ σ[n4]? = some (.row row 60 0 0)
theorem dqs_any {s σ τ : St} {m b n4 : Nat} {row : List V} (h : DQS s σ m b n4 row) (hw : LW σ τ m b) : DQS s τ m b n4 row := by
  obtain ⟨h1, h2, h3, h4, h5⟩ := h
  have hm := h1.2.2.2
  exact ⟨lw_trans h1 hw, h2, by have := hw.1; omega, by rw [hw.2.1 _ (by omega) (by omega) (by omega)]; exact h4, by rw [hw.2.1 _ h3 (by omega) (by omega)]; exact h5⟩
theorem dqs_set {s σ : St} {m b n4 : Nat} {row : List V} (row' : List V) (h : DQS s σ m b n4 row) : DQS s (σ.set n4 (.row row' 60 0 0)) m b n4 row' := by
  obtain ⟨h1, h2, h3, h4, h5⟩ := h
  exact ⟨lw_set h1 (by omega), h2, by simpa using h3, by rw [List.getElem?_set_ne (by omega)]; exact h4, List.getElem?_set_self h3⟩
set_option maxHeartbeats 4000000 in
theorem ldecl {s : St} {m b : Nat} (h : LS s m b) : ∃ v s', ThP TT PT 21 [.ptr m 0 0] s v s' ∧ (∃ x : Dp, v = .agg x.row ∧ ShD x ∧ x.nm.length ≤ 12 ∧ x.on.length ≤ 12) ∧ LW s s' m b ∧ s'.length = s.length := by
  have hm0 := ls_lt h
  have hb0 := ts_lt h.1
  refine thp_go T21 rfl ?_
  obtain ⟨s1, e1⟩ : ∃ s1 : St, s1 = s ++ [.row [.int .i64 0, .int .i64 0, .str [], .int .i64 0, .int .i64 0, .str []] 60 0 0] := ⟨_, rfl⟩
  have w1 : LW s s1 m b := by rw [e1]; exact lw_push (lw_refl h)
  have k1 : s1[s.length]? = some (.row [.int .i64 0, .int .i64 0, .str [], .int .i64 0, .int .i64 0, .str []] 60 0 0) := by rw [e1, List.getElem?_append_right (Nat.le_refl _), Nat.sub_self]; rfl
  obtain ⟨line, left, m1⟩ := ls_row w1.2.2.1
  have hlv := ls_left w1.2.2.1 m1
  obtain ⟨s2, e2⟩ : ∃ s2 : St, s2 = s1.set m (.row [.ptr b 0 0, .int .i64 (IntKind.i64.wrap (line + 1)), .int .i64 left] 56 0 0) := ⟨_, rfl⟩
  have w2 : LW s s2 m b := by rw [e2]; exact lw_own w1 hlv
  have m2 : s2[m]? = some (.row [.ptr b 0 0, .int .i64 (IntKind.i64.wrap (line + 1)), .int .i64 left] 56 0 0) := by rw [e2]; exact List.getElem?_set_self (by have := w1.1; omega)
  have k2 : s2[s.length]? = some (.row [.int .i64 0, .int .i64 0, .str [], .int .i64 0, .int .i64 0, .str []] 60 0 0) := by rw [e2, List.getElem?_set_ne (by omega)]; exact k1
  have hl12 : s2.length = s.length + 1 := by rw [e2, e1]; simp
  obtain ⟨r, s3, q3, w3, l3, r3, mm3, q3z⟩ := lnm w2.2.2.1 6 6 rfl (by omega)
  obtain ⟨r', s4, q4, w4, l4, r4, mm4, q4z⟩ := lnm w3.2.2.1 12 12 rfl (by omega)
  have m3 := mm3.trans m2
  have m4 := mm4.trans m3
  have k4 : s4[s.length]? = some (.row [.int .i64 0, .int .i64 0, .str [], .int .i64 0, .int .i64 0, .str []] 60 0 0) := by rw [w4.2.1 _ (by omega) (by omega) (by omega), w3.2.1 _ (by omega) (by omega) (by omega)]; exact k2
  generalize hline : IntKind.i64.wrap (line + 1) = ln at *
  have e3 : IntKind.i64.wrap (1 + (r : Int)) = ((1 + r : Nat) : Int) := by rw [wrap64 (by omega)]; omega
  obtain ⟨nm, hn, hnl⟩ := pick_str [[120], [121], [118], [113], [109], [110], [114], [99], [100], [102], [103], [116]] (by kernel_rfl) (j := r') (by simp; omega)
  simp only [List.map_cons, List.map_nil] at hn
  have w24 := lw_trans (lw_trans w2 w3) w4
  have hrow : ∀ row, DQS s (s4 ++ [.row row 60 0 0]) m b s4.length row := fun row => ⟨lw_push w24, by omega, by simp, get_app_some k4, by simp⟩
  have hlz := (l4.trans l3).symm
  have hl3 := l4.symm
  rw [e1] at m1
  rw [e2, e1] at q3 q3z hlz
  rw [e2, e1] at m2
  have m2z := fun x : Ob => get_app_some (l := [x]) m2
  have m3z := fun x : Ob => get_app_some (l := [x]) m3
  have m4z := fun x : Ob => get_app_some (l := [x]) m4
  simp only [go_sem, m1, hline]
  refine w_drw3 21 4 17 [21, 0, 1, 2, 3, 4, 5, 6, 7, 8, 9, 10, 11, 12, 13, 14, 15, 16, 17, 18, 19, 20, 22] [0, 1, 2, 3, 4, 21, 5, 6, 7, 8, 9, 10, 11, 12, 13, 14, 15, 16, 17, 18, 19, 20, 22] [0, 1, 2, 3, 4, 5, 6, 7, 8, 9, 10, 11, 12, 13, 14, 15, 16, 17, 18, 19, 20, 21, 22]
    [[], [], [1], [2], [3], [0, 4], [5], [], [7], [8], [9], [], [], [12], [13], [14], [], [16], [5, 15, 17], [11, 18], [19], [6, 10, 20], [0, 1, 2, 3, 4, 5, 6, 7, 8, 9, 10, 11, 12, 13, 14, 15, 16, 17, 18, 19, 20, 21]] [[], [0], [1], [2], [3], [4], [4], [], [7], [8], [9], [], [], [12], [13], [14], [], [16], [4, 5, 15, 17], [11, 18], [19], [6, 10, 20], [0, 1, 2, 3, 4, 5, 6, 7, 8, 9, 10, 11, 12, 13, 14, 15, 16, 17, 18, 19, 20, 21]] [[], [0], [1], [2], [3], [4], [], [6], [7], [8], [], [], [11], [12], [13], [], [15], [4, 14, 16], [10, 17], [18], [5, 9, 19], [4, 17], [0, 1, 2, 3, 4, 5, 6, 7, 8, 9, 10, 11, 12, 13, 14, 15, 16, 17, 18, 19, 20, 21]] (E := ?E) (S := ?S) (by kernel_rfl) ?h1 ?h2 ?h3 ?h4
  case h1 =>
    simp only [pickAI, List.filterMap_cons, List.filterMap_nil, List.getElem?_cons_succ, List.getElem?_cons_zero, List.length_cons, List.length_nil, Nat.reduceAdd]
    simp only [go_sem, m2z, hlz]
    refine wgR ?_
    simp only [go_sem]
    refine wgA (q3z _) ?_
    simp only [go_sem, e3, m3z]
    refine wgR ?_
    simp only [go_sem, m3z]
    refine wgR ?_
    simp only [go_sem, Int.cast_ofNat_Int]
    refine wgA (q4z _) ?_
    simp only [go_sem, hn, m4z]
    refine wgR ?_
    simp only [go_sem]
    refine wgE ?_
    simp only [go_sem]
    exact de_ok
  case h2 =>
    simp only [pickAI, List.filterMap_cons, List.filterMap_nil, List.getElem?_cons_succ, List.getElem?_cons_zero, List.length_cons, List.length_nil, Nat.reduceAdd]
    simp only [go_sem, m2]
    refine wgA q3 ?_
    simp only [go_sem, m3, hl3]
    refine wgE ?_
    simp only [go_sem, e3, m3z]
    refine wgR ?_
    simp only [go_sem, m3z]
    refine wgR ?_
    simp only [go_sem, Int.cast_ofNat_Int]
    refine wgA (q4z _) ?_
    simp only [go_sem, hn, m4z]
    refine wgR ?_
    simp only [go_sem]
    refine wgE ?_
    simp only [go_sem]
    exact ds_ok (by kernel_rfl) (by rfl)
  case h3 =>
    simp only [pickAI, List.filterMap_cons, List.filterMap_nil, List.getElem?_cons_succ, List.getElem?_cons_zero, List.length_cons, List.length_nil, Nat.reduceAdd]
    simp only [go_sem, m2]
    refine wgA q3 ?_
    simp only [go_sem, e3, m3]
    refine wgR ?_
    simp only [go_sem, m3]
    refine wgR ?_
    simp only [go_sem, Int.cast_ofNat_Int]
    refine wgA q4 ?_
    simp only [go_sem, hn, m4]
    refine wgR ?_
    simp only [go_sem]
    refine wgE ?_
    simp only [go_sem]
    refine wgE ?_
    simp only [go_sem]
    exact ds_ok (by kernel_rfl) (by rfl)
  case h4 =>
  have hr6 : r = 0 ∨ r = 1 ∨ r = 2 ∨ r = 3 ∨ r = 4 ∨ r = 5 := by omega
  have g0 := hrow [.int .i64 ((1 + r : Nat) : Int), .int .i64 ln, .str nm, .int .i64 0, .int .i64 0, .str []]
  clear e1 w1 k1 m1 e2 w2 m2 k2 q3 w3 l3 mm3 q3z m3 hline e3 m2z m3z m4z hlz hl3 q4 q4z w4 l4 mm4 m4 k4 w24 hrow hl12
  generalize s4.length = n4 at g0 ⊢
  generalize s4 ++ [Ob.row [.int .i64 ((1 + r : Nat) : Int), .int .i64 ln, .str nm, .int .i64 0, .int .i64 0, .str []] 60 0 0] = σ at g0 ⊢
  have p4 := g0.2.2.2.2
  obtain ⟨_, _, m4⟩ := ls_row g0.1.2.2.1
  have zz := g0.2.2.2.1
  rcases hr6 with rfl | rfl | rfl | rfl | rfl | rfl
  · obtain ⟨j5, σ5, q5, w5, l5, jb5, -⟩ := lnx g0.1.2.2.1 6 6 rfl (by omega)
    obtain ⟨sz, hsz, hszm⟩ := pick_mem [0, 0, 1, 2, 4, 5] (j := j5) (by simp; omega)
    simp only [List.map_cons, List.map_nil] at hsz
    have g5 := dqs_any g0 w5
    have p5 := g5.2.2.2.2
    simp only [go_sem, p4, m4, Int.reduceBEq, Int.cast_ofNat_Int]
    refine wx_any q5 ?_
    obtain ⟨σ6, e6⟩ : ∃ t : St, t = σ5.set n4 (.row [.int .i64 1, .int .i64 ln, .str nm, .int .i64 sz, .int .i64 0, .str []] 60 0 0) := ⟨_, rfl⟩
    have g6 : DQS s σ6 m b n4 [.int .i64 1, .int .i64 ln, .str nm, .int .i64 sz, .int .i64 0, .str []] := by rw [e6]; exact dqs_set _ g5
    have p6 := g6.2.2.2.2
    obtain ⟨_, _, m6⟩ := ls_row g6.1.2.2.1
    have z6 := g6.2.2.2.1
    rw [e6] at p6 m6 z6
    obtain ⟨j7, σ7, q7, w7, l7, jb7, -⟩ := lnx g6.1.2.2.1 6 6 rfl (by omega)
    rw [e6] at q7
    obtain ⟨it, hit, hitm⟩ := pick_mem [0, 0, 1, -1, 9223372036854775807, -9223372036854775807] (j := j7) (by simp; omega)
    simp only [List.map_cons, List.map_nil] at hit
    have g7 := dqs_any g6 w7
    have p7 := g7.2.2.2.2
    simp only [go_sem, p5, hsz, p6, m6, z6, Int.reduceBEq, Int.cast_ofNat_Int]
    refine wx_any q7 ?_
    obtain ⟨σ8, e8⟩ : ∃ t : St, t = σ7.set n4 (.row [.int .i64 1, .int .i64 ln, .str nm, .int .i64 sz, .int .i64 it, .str []] 60 0 0) := ⟨_, rfl⟩
    have g8 : DQS s σ8 m b n4 [.int .i64 1, .int .i64 ln, .str nm, .int .i64 sz, .int .i64 it, .str []] := by rw [e8]; exact dqs_set _ g7
    have p8 := g8.2.2.2.2
    obtain ⟨_, _, m8⟩ := ls_row g8.1.2.2.1
    have z8 := g8.2.2.2.1
    rw [e8] at p8 m8 z8
    simp only [go_sem, p7, hit, p8, m8, z8, Int.reduceBEq, Int.cast_ofNat_Int]
    refine lw_end (resN (List.getElem?_set_self (by have := g8.2.1; have := g8.2.2.1; rw [e8] at this; omega)) rfl rfl) (set_ok (by simp only [go_sem])) (lw_set (e8 ▸ g8.1) (Nat.le_refl _)) ⟨⟨1, ln, nm, sz, it, []⟩, rfl, ⟨by simp, hnl.1, ?_, ?_, ?_⟩, by have := hnl.2; simp only; omega, ?_⟩
    · simp at hszm; simp only; omega
    · simp at hitm; simp only; omega
    · simp
    · simp
  · obtain ⟨j5, σ5, q5, w5, l5, jb5, -⟩ := lnx g0.1.2.2.1 6 6 rfl (by omega)
    obtain ⟨it, hit, hitm⟩ := pick_mem [0, 0, 1, -1, 9223372036854775807, -9223372036854775807] (j := j5) (by simp; omega)
    simp only [List.map_cons, List.map_nil] at hit
    have g5 := dqs_any g0 w5
    have p5 := g5.2.2.2.2
    simp only [go_sem, p4, m4, Int.reduceBEq, Int.cast_ofNat_Int]
    refine wx_any q5 ?_
    obtain ⟨σ6, e6⟩ : ∃ t : St, t = σ5.set n4 (.row [.int .i64 2, .int .i64 ln, .str nm, .int .i64 0, .int .i64 it, .str []] 60 0 0) := ⟨_, rfl⟩
    have g6 : DQS s σ6 m b n4 [.int .i64 2, .int .i64 ln, .str nm, .int .i64 0, .int .i64 it, .str []] := by rw [e6]; exact dqs_set _ g5
    have p6 := g6.2.2.2.2
    obtain ⟨_, _, m6⟩ := ls_row g6.1.2.2.1
    have z6 := g6.2.2.2.1
    rw [e6] at p6 m6 z6
    simp only [go_sem, p5, hit, p6, m6, z6, Int.reduceBEq, Int.cast_ofNat_Int]
    refine lw_end (resN (List.getElem?_set_self (by have := g6.2.1; have := g6.2.2.1; rw [e6] at this; omega)) rfl rfl) (set_ok (by simp only [go_sem])) (lw_set (e6 ▸ g6.1) (Nat.le_refl _)) ⟨⟨2, ln, nm, 0, it, []⟩, rfl, ⟨by simp, hnl.1, ?_, ?_, ?_⟩, by have := hnl.2; simp only; omega, ?_⟩
    · simp
    · simp at hitm; simp only; omega
    · simp
    · simp
  · simp only [go_sem, p4, m4, zz, Int.reduceBEq, Int.cast_ofNat_Int]
    refine lw_end (resN (List.getElem?_set_self (by have := g0.2.1; have := g0.2.2.1; omega)) rfl rfl) (set_ok (by simp only [go_sem])) (lw_set g0.1 (Nat.le_refl _)) ⟨⟨3, ln, nm, 0, 0, []⟩, rfl, ⟨by simp, hnl.1, ?_, ?_, ?_⟩, by have := hnl.2; simp only; omega, ?_⟩
    · simp
    · simp
    · simp
    · simp
  · simp only [go_sem, p4, m4, zz, Int.reduceBEq, Int.cast_ofNat_Int]
    refine lw_end (resN (List.getElem?_set_self (by have := g0.2.1; have := g0.2.2.1; omega)) rfl rfl) (set_ok (by simp only [go_sem])) (lw_set g0.1 (Nat.le_refl _)) ⟨⟨4, ln, nm, 0, 0, []⟩, rfl, ⟨by simp, hnl.1, ?_, ?_, ?_⟩, by have := hnl.2; simp only; omega, ?_⟩
    · simp
    · simp
    · simp
    · simp
  · obtain ⟨j5, σ5, q5, w5, l5, jb5, -⟩ := lnx g0.1.2.2.1 12 12 rfl (by omega)
    obtain ⟨on, hon, honm⟩ := pick_str [[120], [121], [118], [113], [109], [110], [114], [99], [100], [102], [103], [116]] (by kernel_rfl) (j := j5) (by simp; omega)
    simp only [List.map_cons, List.map_nil] at hon
    have g5 := dqs_any g0 w5
    have p5 := g5.2.2.2.2
    simp only [go_sem, p4, m4, Int.reduceBEq, Int.cast_ofNat_Int]
    refine wx_any q5 ?_
    obtain ⟨σ6, e6⟩ : ∃ t : St, t = σ5.set n4 (.row [.int .i64 5, .int .i64 ln, .str nm, .int .i64 0, .int .i64 0, .str on] 60 0 0) := ⟨_, rfl⟩
    have g6 : DQS s σ6 m b n4 [.int .i64 5, .int .i64 ln, .str nm, .int .i64 0, .int .i64 0, .str on] := by rw [e6]; exact dqs_set _ g5
    have p6 := g6.2.2.2.2
    obtain ⟨_, _, m6⟩ := ls_row g6.1.2.2.1
    have z6 := g6.2.2.2.1
    rw [e6] at p6 m6 z6
    simp only [go_sem, p5, hon, p6, m6, z6, Int.reduceBEq, Int.cast_ofNat_Int]
    refine lw_end (resN (List.getElem?_set_self (by have := g6.2.1; have := g6.2.2.1; rw [e6] at this; omega)) rfl rfl) (set_ok (by simp only [go_sem])) (lw_set (e6 ▸ g6.1) (Nat.le_refl _)) ⟨⟨5, ln, nm, 0, 0, on⟩, rfl, ⟨by simp, hnl.1, ?_, ?_, ?_⟩, by have := hnl.2; simp only; omega, ?_⟩
    · simp
    · simp
    · exact ⟨fun _ => honm.1, fun h => absurd rfl h⟩
    · have := honm.2; simp only; omega
  · simp only [go_sem, p4, m4, zz, Int.reduceBEq, Int.cast_ofNat_Int]
    refine lw_end (resN (List.getElem?_set_self (by have := g0.2.1; have := g0.2.2.1; omega)) rfl rfl) (set_ok (by simp only [go_sem])) (lw_set g0.1 (Nat.le_refl _)) ⟨⟨6, ln, nm, 0, 0, []⟩, rfl, ⟨by simp, hnl.1, ?_, ?_, ?_⟩, by have := hnl.2; simp only; omega, ?_⟩
    · simp
    · simp
    · simp
    · simp
/-! end of the cases -/
end Go.Proofs.YtlehfgdhebapeaaDoor.KM
