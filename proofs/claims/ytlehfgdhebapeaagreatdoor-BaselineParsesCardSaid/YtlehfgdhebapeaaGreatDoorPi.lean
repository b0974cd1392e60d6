/- Walks: which values are baselines; the law BaselineValid. -/
import Derived.Test.YtlehfgdhebapeaaGreatDoorPh
set_option linter.all false
namespace Go.Proofs.YtlehfgdhebapeaaGreatDoor.KM
open Go
theorem valid_no1 {n : Int} {l : List Ent} (h : n < 0 ∨ 1073741824 < n ∨ 64 < l.length) : validB n l = false := by
  rw [← Bool.not_eq_true]
  intro hv
  unfold validB at hv
  simp only [Bool.and_eq_true, decide_eq_true_eq] at hv
  omega
theorem valid_no2 {n : Int} {l : List Ent} {i : Nat} (hi : i < l.length) (h : okAt l i = false) : validB n l = false := by
  unfold validB
  rw [validL_f hi h]
  simp
theorem valid_yes {n : Int} {l : List Ent} (h1 : 0 ≤ n) (h2 : n ≤ 1073741824) (h3 : l.length ≤ 64) (h : ∀ i, i < l.length → okAt l i = true) : validB n l = true := by
  unfold validB
  rw [validL_t h, decide_eq_true h1, decide_eq_true h2, decide_eq_true h3]
  rfl
theorem okAt_0 {l : List Ent} {x : Ent} (h : l[0]? = some x) : okAt l 0 = entB x := by
  unfold okAt
  rw [h]
  simp
theorem okAt_s {l : List Ent} {j : Nat} {p x : Ent} (hp : l[j]? = some p) (h : l[j + 1]? = some x) : okAt l (j + 1) = (entB x && decide (ecmp p x < 0)) := by
  unfold okAt
  rw [h]
  simp only [hp]
theorem dec64 {j : Nat} (h : j < 9223372036854775807) : IntKind.i64.wrap (((j + 1 : Nat) : Int) - 1) = (j : Int) := by
  rw [wrap64 (by omega)]
  omega
theorem valid_fn (z : Bool) (t : Nat) (n : Int) (l : List Ent) (ho : okE l) : Fn TT PT 61 [.agg [.int .i64 n, SL z t (l.map Ent.row)]] (.bool (validB n l)) := by
  refine Fn_go T61 rfl ?_
  cases h1 : decide (n < 0)
  rotate_left
  · simp only [go_sem, Nat.reduceEqDiff, reduceIte, Nat.reduceAdd, Nat.reduceMul, Nat.reduceLeDiff, Int.reduceLT, Int.reduceLE, Int.reduceToNat, Int.reduceAdd, Int.reduceNeg, Int.reduceEq, h1]
    exact fr_eq rfl (by rw [valid_no1 (.inl (by simpa using h1))])
  cases h2 : decide (1073741824 < n)
  rotate_left
  · simp only [go_sem, Nat.reduceEqDiff, reduceIte, Nat.reduceAdd, Nat.reduceMul, Nat.reduceLeDiff, Int.reduceLT, Int.reduceLE, Int.reduceToNat, Int.reduceAdd, Int.reduceNeg, Int.reduceEq, h1, h2]
    exact fr_eq rfl (by rw [valid_no1 (.inr (.inl (by simpa using h2)))])
  cases h3 : decide ((64 : Int) < (l.length : Int))
  rotate_left
  · simp only [go_sem, Nat.reduceEqDiff, reduceIte, Nat.reduceAdd, Nat.reduceMul, Nat.reduceLeDiff, Int.reduceLT, Int.reduceLE, Int.reduceToNat, Int.reduceAdd, Int.reduceNeg, Int.reduceEq, h1, h2, List.length_map, h3]
    exact fr_eq rfl (by rw [valid_no1 (.inr (.inr (by simp at h3; omega)))])
  simp only [go_sem, Nat.reduceEqDiff, reduceIte, Nat.reduceAdd, Nat.reduceMul, Nat.reduceLeDiff, Int.reduceLT, Int.reduceLE, Int.reduceToNat, Int.reduceAdd, Int.reduceNeg, Int.reduceEq, h1, h2, List.length_map, h3]
  simp at h1 h2 h3
  refine loop_w (α := Nat × St) (fun a => l.length - a.1) (fun a => [(1, .ptr 0 0 0), (20, SL z t (l.map Ent.row)), (21, .int .i64 l.length), (22, .int .i64 a.1)]) (fun a => .row [.int .i64 n, SL z t (l.map Ent.row)] 61 0 0 :: a.2)
    (fun a => a.1 ≤ l.length ∧ ∀ j, j < a.1 → okAt l j = true) ?_ (0, []) ⟨by simp, fun j hj => by simp at hj⟩
  rintro ⟨i, s⟩ ⟨hi, hno⟩ ih
  simp only at hi hno ih
  refine w_rep (by delta lp61_0; exact rfl) ?_
  rcases Nat.lt_or_ge i l.length with h | h
  · obtain ⟨x, hx, -, hm⟩ := at_some h
    have hv := ventry_fn x
    cases hz : decide ((0 : Int) < (i : Int))
    · obtain rfl : i = 0 := by simp at hz; omega
      have h0 : decide ((0 : Int) < (l.length : Int)) = true := lt_t h
      simp only [go_sem, Nat.reduceEqDiff, reduceIte, Nat.reduceAdd, Nat.reduceMul, Nat.reduceLeDiff, Int.reduceLT, Int.reduceLE, Int.reduceToNat, Int.reduceAdd, Int.reduceNeg, Int.reduceEq, h0, List.getElem?_map, hx]
      refine w_drw (by kernel_rfl) ?_
      simp only [go_sem, Nat.reduceEqDiff, reduceIte, Nat.reduceAdd, Nat.reduceMul, Nat.reduceLeDiff, Int.reduceLT, Int.reduceLE, Int.reduceToNat, Int.reduceAdd, Int.reduceNeg, Int.reduceEq]
      refine wx_fn hv (by simp only [go_sem]) ?_
      cases hb : entB x
      · simp only [go_sem, Nat.reduceEqDiff, reduceIte, Nat.reduceAdd, Nat.reduceMul, Nat.reduceLeDiff, Int.reduceLT, Int.reduceLE, Int.reduceToNat, Int.reduceAdd, Int.reduceNeg, Int.reduceEq]
        exact fr_eq rfl (by rw [valid_no2 h (by rw [okAt_0 hx, hb])])
      · simp only [go_sem, Nat.reduceEqDiff, reduceIte, Nat.reduceAdd, Nat.reduceMul, Nat.reduceLeDiff, Int.reduceLT, Int.reduceLE, Int.reduceToNat, Int.reduceAdd, Int.reduceNeg, Int.reduceEq]
        refine W_keep (ih (1, _) (by simp; omega) ⟨by simp; omega, fun j hj => ?_⟩) rfl
        obtain rfl : j = 0 := by simp at hj; omega
        rw [okAt_0 hx, hb]
    · obtain ⟨j, rfl⟩ : ∃ j, i = j + 1 := ⟨i - 1, by simp at hz; omega⟩
      obtain ⟨p, hp, -, hpm⟩ := at_some (show j < l.length by omega)
      have hl := less_fn p x (ho p hpm) (ho x hm)
      have hd := dec64 (show j < 9223372036854775807 by omega)
      cases hc : decide (ecmp p x < 0)
      · rw [hc] at hl
        simp only [go_sem, Nat.reduceEqDiff, reduceIte, Nat.reduceAdd, Nat.reduceMul, Nat.reduceLeDiff, Int.reduceLT, Int.reduceLE, Int.reduceToNat, Int.reduceAdd, Int.reduceNeg, Int.reduceEq, lt_t h, List.getElem?_map, hx]
        refine w_drw (by kernel_rfl) ?_
        simp only [go_sem, Nat.reduceEqDiff, reduceIte, Nat.reduceAdd, Nat.reduceMul, Nat.reduceLeDiff, Int.reduceLT, Int.reduceLE, Int.reduceToNat, Int.reduceAdd, Int.reduceNeg, Int.reduceEq, hz, hd, List.getElem?_map, hp]
        refine wgx_fn hl (by simp only [go_sem]) ?_
        simp only [go_sem, Nat.reduceEqDiff, reduceIte, Nat.reduceAdd, Nat.reduceMul, Nat.reduceLeDiff, Int.reduceLT, Int.reduceLE, Int.reduceToNat, Int.reduceAdd, Int.reduceNeg, Int.reduceEq]
        exact fr_eq rfl (by rw [valid_no2 h (by rw [okAt_s hp hx, hc]; simp)])
      · rw [hc] at hl
        simp only [go_sem, Nat.reduceEqDiff, reduceIte, Nat.reduceAdd, Nat.reduceMul, Nat.reduceLeDiff, Int.reduceLT, Int.reduceLE, Int.reduceToNat, Int.reduceAdd, Int.reduceNeg, Int.reduceEq, lt_t h, List.getElem?_map, hx]
        refine w_drw (by kernel_rfl) ?_
        simp only [go_sem, Nat.reduceEqDiff, reduceIte, Nat.reduceAdd, Nat.reduceMul, Nat.reduceLeDiff, Int.reduceLT, Int.reduceLE, Int.reduceToNat, Int.reduceAdd, Int.reduceNeg, Int.reduceEq, hz, hd, List.getElem?_map, hp]
        refine wgx_fn hl (by simp only [go_sem]) ?_
        simp only [go_sem, Nat.reduceEqDiff, reduceIte, Nat.reduceAdd, Nat.reduceMul, Nat.reduceLeDiff, Int.reduceLT, Int.reduceLE, Int.reduceToNat, Int.reduceAdd, Int.reduceNeg, Int.reduceEq]
        refine wx_fn hv (by simp only [go_sem]) ?_
        cases hb : entB x
        · simp only [go_sem, Nat.reduceEqDiff, reduceIte, Nat.reduceAdd, Nat.reduceMul, Nat.reduceLeDiff, Int.reduceLT, Int.reduceLE, Int.reduceToNat, Int.reduceAdd, Int.reduceNeg, Int.reduceEq]
          exact fr_eq rfl (by rw [valid_no2 h (by rw [okAt_s hp hx, hb]; simp)])
        · simp only [go_sem, Nat.reduceEqDiff, reduceIte, Nat.reduceAdd, Nat.reduceMul, Nat.reduceLeDiff, Int.reduceLT, Int.reduceLE, Int.reduceToNat, Int.reduceAdd, Int.reduceNeg, Int.reduceEq, inc64 (show j + 1 < 9223372036854775807 by omega)]
          refine W_keep (ih (j + 2, _) (by simp; omega) ⟨by simp; omega, fun j' hj' => ?_⟩) rfl
          by_cases e : j' = j + 1
          · rw [e, okAt_s hp hx, hb, hc]
            rfl
          · exact hno j' (by simp at hj'; omega)
  · simp only [go_sem, Nat.reduceEqDiff, reduceIte, Nat.reduceAdd, Nat.reduceMul, Nat.reduceLeDiff, Int.reduceLT, Int.reduceLE, Int.reduceToNat, Int.reduceAdd, Int.reduceNeg, Int.reduceEq, lt_f h]
    exact fr_eq rfl (by rw [valid_yes h1 h2 (by omega) fun j hj => hno j (by omega)])
/-! interleaveref39 -/
theorem rsites (x : Ent) (n : Int) (l : List Ent) (hno : x.sites.all keyB = false → validB n l = false) (L : V) (N I : Int) (s0 : Ob) (k : List It)
    (h : x.sites.all keyB = true → ∀ s, W TT PT k [(1, .ptr 0 0 0), (23, L), (24, .int .i64 N), (25, .int .i64 I), (102, x.sl), (103, .int .i64 x.sites.length), (104, .int .i64 x.sites.length)] (s0 :: s) (FQ [AR.tmp 2] (.bool (validB n l)))) (hn : x.sites.length ≤ 4) (s : St) :
    W TT PT (.l [1, 23, 24, 25, 102, 103, 104] lp65_0 :: .b 2 :: k) [(1, .ptr 0 0 0), (23, L), (24, .int .i64 N), (25, .int .i64 I), (102, x.sl), (103, .int .i64 x.sites.length), (104, .int .i64 0)] (s0 :: s) (FQ [AR.tmp 2] (.bool (validB n l))) := by
  refine loop_w (α := Nat × St) (fun a => x.sites.length - a.1) (fun a => [(1, .ptr 0 0 0), (23, L), (24, .int .i64 N), (25, .int .i64 I), (102, x.sl), (103, .int .i64 x.sites.length), (104, .int .i64 a.1)]) (fun a => s0 :: a.2)
    (fun a => a.1 ≤ x.sites.length ∧ ∀ (j : Nat) (k : Key), j < a.1 → x.sites[j]? = some k → keyB k = true) ?_ (0, s) ⟨by simp, fun j k hj => by simp at hj⟩
  rintro ⟨i, s⟩ ⟨hi, hyes⟩ ih
  simp only at hi hyes ih
  refine w_rep (by delta lp65_0; exact rfl) ?_
  rcases Nat.lt_or_ge i x.sites.length with h1 | h1
  · obtain ⟨k, hx, -, -⟩ := at_some h1
    have hv := rvkey_fn k
    simp only [krow] at hv
    simp only [go_sem, Nat.reduceEqDiff, reduceIte, Nat.reduceAdd, Nat.reduceMul, Nat.reduceLeDiff, Int.reduceLT, Int.reduceLE, Int.reduceToNat, Int.reduceAdd, Int.reduceNeg, Int.reduceEq, lt_t h1, ents_iad, List.getElem?_map, hx, krow]
    refine wx_fn hv rfl ?_
    cases hb : keyB k
    · simp only [go_sem, Nat.reduceEqDiff, reduceIte, Nat.reduceAdd, Nat.reduceMul, Nat.reduceLeDiff, Int.reduceLT, Int.reduceLE, Int.reduceToNat, Int.reduceAdd, Int.reduceNeg, Int.reduceEq]
      refine fr_eq rfl ?_
      rw [hno ?_]
      rw [← Bool.not_eq_true]
      intro ha
      have := List.all_eq_true.1 ha k (List.mem_of_getElem? hx)
      rw [hb] at this
      cases this
    · simp only [go_sem, Nat.reduceEqDiff, reduceIte, Nat.reduceAdd, Nat.reduceMul, Nat.reduceLeDiff, Int.reduceLT, Int.reduceLE, Int.reduceToNat, Int.reduceAdd, Int.reduceNeg, Int.reduceEq, inc64 (show i < 9223372036854775807 by omega)]
      refine W_keep (ih (i + 1, _) (by simp; omega) ⟨by simp; omega, fun j k' hj hk' => ?_⟩) rfl
      by_cases e : j = i
      · rw [e, hx] at hk'
        cases hk'
        exact hb
      · exact hyes j k' (by simp at hj; omega) hk'
  · obtain rfl : i = x.sites.length := by omega
    simp only [go_sem, Nat.reduceEqDiff, reduceIte, Nat.reduceAdd, Nat.reduceMul, Nat.reduceLeDiff, Int.reduceLT, Int.reduceLE, Int.reduceToNat, Int.reduceAdd, Int.reduceNeg, Int.reduceEq, lt_f h1]
    refine h ?_ s
    rw [List.all_eq_true]
    intro c hc
    obtain ⟨j, hj, rfl⟩ := List.getElem_of_mem hc
    exact hyes j _ hj (List.getElem?_eq_getElem hj)
theorem okAt_num {l : List Ent} {i : Nat} {x : Ent} (hx : l[i]? = some x) (h : entB x = false) : okAt l i = false := by
  unfold okAt
  rw [hx]
  simp [h]
theorem ent_num {x : Ent} (h : numB x = false) : entB x = false := by unfold entB; rw [h]; simp
theorem ent_all {x : Ent} (h : x.sites.all keyB = false) : entB x = false := by unfold entB; rw [h]; simp
theorem kind_cases (k : Int) : ((k == 1) = true ∧ (k == 3) = false ∧ (k == 2) = false ∧ (k == 4) = false) ∨ ((k == 1) = false ∧ (k == 3) = true ∧ (k == 2) = false ∧ (k == 4) = false) ∨ ((k == 1) = false ∧ (k == 3) = false ∧ (k == 2) = false ∧ (k == 4) = true) ∨
    ((k == 1) = false ∧ (k == 3) = false ∧ (k == 2) = true ∧ (k == 4) = false) ∨ ((k == 1) = false ∧ (k == 3) = false ∧ (k == 2) = false ∧ (k == 4) = false) := by
  simp only [beq_iff_eq, beq_eq_false_iff_ne, ne_eq]
  omega
set_option maxHeartbeats 4000000 in
theorem rvalid_fn (z : Bool) (t : Nat) (n : Int) (l : List Ent) (ho : okE l) : Fn TT PT 65 [.agg [.int .i64 n, SL z t (l.map Ent.row)]] (.bool (validB n l)) := by
  refine Fn_go T65 rfl ?_
  cases h1 : decide (n < 0)
  rotate_left
  · simp only [go_sem, Nat.reduceEqDiff, reduceIte, Nat.reduceAdd, Nat.reduceMul, Nat.reduceLeDiff, Int.reduceLT, Int.reduceLE, Int.reduceToNat, Int.reduceAdd, Int.reduceNeg, Int.reduceEq, h1]
    exact fr_eq rfl (by rw [valid_no1 (.inl (by simpa using h1))])
  cases h2 : decide (1073741824 < n)
  rotate_left
  · simp only [go_sem, Nat.reduceEqDiff, reduceIte, Nat.reduceAdd, Nat.reduceMul, Nat.reduceLeDiff, Int.reduceLT, Int.reduceLE, Int.reduceToNat, Int.reduceAdd, Int.reduceNeg, Int.reduceEq, h1, h2]
    exact fr_eq rfl (by rw [valid_no1 (.inr (.inl (by simpa using h2)))])
  cases h3 : decide ((64 : Int) < (l.length : Int))
  rotate_left
  · simp only [go_sem, Nat.reduceEqDiff, reduceIte, Nat.reduceAdd, Nat.reduceMul, Nat.reduceLeDiff, Int.reduceLT, Int.reduceLE, Int.reduceToNat, Int.reduceAdd, Int.reduceNeg, Int.reduceEq, h1, h2, List.length_map, h3]
    exact fr_eq rfl (by rw [valid_no1 (.inr (.inr (by simp at h3; omega)))])
  simp only [go_sem, Nat.reduceEqDiff, reduceIte, Nat.reduceAdd, Nat.reduceMul, Nat.reduceLeDiff, Int.reduceLT, Int.reduceLE, Int.reduceToNat, Int.reduceAdd, Int.reduceNeg, Int.reduceEq, h1, h2, List.length_map, h3]
  simp at h1 h2 h3
  refine loop_w (α := Nat × St) (fun a => l.length - a.1) (fun a => [(1, .ptr 0 0 0), (23, SL z t (l.map Ent.row)), (24, .int .i64 l.length), (25, .int .i64 a.1)]) (fun a => .row [.int .i64 n, SL z t (l.map Ent.row)] 61 0 0 :: a.2)
    (fun a => a.1 ≤ l.length ∧ ∀ j, j < a.1 → okAt l j = true) ?_ (0, []) ⟨by simp, fun j hj => by simp at hj⟩
  rintro ⟨i, s⟩ ⟨hi, hno⟩ ih
  simp only at hi hno ih
  refine w_rep (by delta lp65_1; exact rfl) ?_
  rcases Nat.lt_or_ge i l.length with h | h
  · obtain ⟨x, hx, -, hm⟩ := at_some h
    simp only [go_sem, Nat.reduceEqDiff, reduceIte, Nat.reduceAdd, Nat.reduceMul, Nat.reduceLeDiff, Int.reduceLT, Int.reduceLE, Int.reduceToNat, Int.reduceAdd, Int.reduceNeg, Int.reduceEq, lt_t h, List.getElem?_map, hx]
    -- ahead of the first test: what may be found
    have fall : entB x = false → validB n l = false := fun hb => valid_no2 h (okAt_num hx hb)
    have hstep : entB x = true → okAt l i = true → ∀ s', W TT PT [.b 1, .c (.reg [112] [o 112 (.bin .add (.t 25) (.k (.int .i64 1))), o 25 (.mov (.t 112))]), .l [1, 23, 24, 25] lp65_1, .b 0, .c (.seq (.reg [] [o 2 (.mov (.k (.bool true)))]) .ret)]
        [(1, .ptr 0 0 0), (23, SL z t (l.map Ent.row)), (24, .int .i64 l.length), (25, .int .i64 i), (102, x.sl), (103, .int .i64 x.sites.length), (104, .int .i64 x.sites.length)] (.row [.int .i64 n, SL z t (l.map Ent.row)] 61 0 0 :: s') (FQ [AR.tmp 2] (.bool (validB n l))) := by
      intro _ hok s'
      simp only [go_sem, Nat.reduceEqDiff, reduceIte, Nat.reduceAdd, Nat.reduceMul, Nat.reduceLeDiff, Int.reduceLT, Int.reduceLE, Int.reduceToNat, Int.reduceAdd, Int.reduceNeg, Int.reduceEq, inc64 (show i < 9223372036854775807 by omega)]
      refine W_keep (ih (i + 1, s') (by simp; omega) ⟨by simp; omega, fun j hj => ?_⟩) rfl
      by_cases e : j = i
      · rw [e]; exact hok
      · exact hno j (by simp at hj; omega)
    cases hz : decide ((0 : Int) < (i : Int))
    · have hi0 : i = 0 := by simp at hz; omega
      have hok : entB x = true → okAt l i = true := fun hb => by subst hi0; rw [okAt_0 hx, hb]
      cases m1 : decide (x.seen < 1)
      rotate_left
      · refine w_drw (by kernel_rfl) ?_
        simp only [go_sem, Nat.reduceEqDiff, reduceIte, Nat.reduceAdd, Nat.reduceMul, Nat.reduceLeDiff, Int.reduceLT, Int.reduceLE, Int.reduceToNat, Int.reduceAdd, Int.reduceNeg, Int.reduceEq, hz, m1]
        exact fr_eq rfl (by rw [fall (ent_num (num_no (.inl (by simpa using m1))))])
      cases m2 : decide (1073741824 < x.seen)
      rotate_left
      · refine w_drw (by kernel_rfl) ?_
        simp only [go_sem, Nat.reduceEqDiff, reduceIte, Nat.reduceAdd, Nat.reduceMul, Nat.reduceLeDiff, Int.reduceLT, Int.reduceLE, Int.reduceToNat, Int.reduceAdd, Int.reduceNeg, Int.reduceEq, hz, m1, m2]
        exact fr_eq rfl (by rw [fall (ent_num (num_no (.inr (.inl (by simpa using m2)))))])
      cases m3 : decide (x.missed < 0)
      rotate_left
      · refine w_drw (by kernel_rfl) ?_
        simp only [go_sem, Nat.reduceEqDiff, reduceIte, Nat.reduceAdd, Nat.reduceMul, Nat.reduceLeDiff, Int.reduceLT, Int.reduceLE, Int.reduceToNat, Int.reduceAdd, Int.reduceNeg, Int.reduceEq, hz, m1, m2, m3]
        exact fr_eq rfl (by rw [fall (ent_num (num_no (.inr (.inr (.inl (by simpa using m3))))))])
      cases m4 : decide (7 < x.missed)
      rotate_left
      · refine w_drw (by kernel_rfl) ?_
        simp only [go_sem, Nat.reduceEqDiff, reduceIte, Nat.reduceAdd, Nat.reduceMul, Nat.reduceLeDiff, Int.reduceLT, Int.reduceLE, Int.reduceToNat, Int.reduceAdd, Int.reduceNeg, Int.reduceEq, hz, m1, m2, m3, m4]
        exact fr_eq rfl (by rw [fall (ent_num (num_no (.inr (.inr (.inr (by simpa using m4))))))])
      have hnum : numB x = true := by simp at m1 m2 m3 m4; exact num_yes (by omega) (by omega) (by omega) (by omega)
      rcases kind_cases x.kind with ⟨q1, q3, q2, q4⟩ | ⟨q1, q3, q2, q4⟩ | ⟨q1, q3, q2, q4⟩ | ⟨q1, q3, q2, q4⟩ | ⟨q1, q3, q2, q4⟩
      · cases e2 : ((x.sites.length : Int) == 2)
        · refine w_drw (by kernel_rfl) ?_
          simp only [go_sem, Nat.reduceEqDiff, reduceIte, Nat.reduceAdd, Nat.reduceMul, Nat.reduceLeDiff, Int.reduceLT, Int.reduceLE, Int.reduceToNat, Int.reduceAdd, Int.reduceNeg, Int.reduceEq, hz, m1, m2, m3, m4, q1, q3, q2, q4, e2]
          exact fr_eq rfl (by rw [fall (ent_no1 (kind_f (by simp at q1 q2 q3 q4 e2; omega)))])
        · refine w_drw (by kernel_rfl) ?_
          simp only [go_sem, Nat.reduceEqDiff, reduceIte, Nat.reduceAdd, Nat.reduceMul, Nat.reduceLeDiff, Int.reduceLT, Int.reduceLE, Int.reduceToNat, Int.reduceAdd, Int.reduceNeg, Int.reduceEq, hz, m1, m2, m3, m4, q1, q3, q2, q4, e2]
          have hkd : kindB x.kind x.sites.length = true := kind_t (by simp at q1 q2 q3 q4 e2; omega)
          have hent : x.sites.all keyB = true → entB x = true := fun ha => by unfold entB; rw [hkd, ha, hnum]; rfl
          exact rsites x n l (fun hb => fall (ent_all hb)) _ _ _ _ _ (fun ha s' => hstep (hent ha) (hok (hent ha)) s') (kindB_le hkd).1 _
      · cases e2 : ((x.sites.length : Int) == 2)
        · refine w_drw (by kernel_rfl) ?_
          simp only [go_sem, Nat.reduceEqDiff, reduceIte, Nat.reduceAdd, Nat.reduceMul, Nat.reduceLeDiff, Int.reduceLT, Int.reduceLE, Int.reduceToNat, Int.reduceAdd, Int.reduceNeg, Int.reduceEq, hz, m1, m2, m3, m4, q1, q3, q2, q4, e2]
          exact fr_eq rfl (by rw [fall (ent_no1 (kind_f (by simp at q1 q2 q3 q4 e2; omega)))])
        · refine w_drw (by kernel_rfl) ?_
          simp only [go_sem, Nat.reduceEqDiff, reduceIte, Nat.reduceAdd, Nat.reduceMul, Nat.reduceLeDiff, Int.reduceLT, Int.reduceLE, Int.reduceToNat, Int.reduceAdd, Int.reduceNeg, Int.reduceEq, hz, m1, m2, m3, m4, q1, q3, q2, q4, e2]
          have hkd : kindB x.kind x.sites.length = true := kind_t (by simp at q1 q2 q3 q4 e2; omega)
          have hent : x.sites.all keyB = true → entB x = true := fun ha => by unfold entB; rw [hkd, ha, hnum]; rfl
          exact rsites x n l (fun hb => fall (ent_all hb)) _ _ _ _ _ (fun ha s' => hstep (hent ha) (hok (hent ha)) s') (kindB_le hkd).1 _
      · cases e2 : ((x.sites.length : Int) == 4)
        · refine w_drw (by kernel_rfl) ?_
          simp only [go_sem, Nat.reduceEqDiff, reduceIte, Nat.reduceAdd, Nat.reduceMul, Nat.reduceLeDiff, Int.reduceLT, Int.reduceLE, Int.reduceToNat, Int.reduceAdd, Int.reduceNeg, Int.reduceEq, hz, m1, m2, m3, m4, q1, q3, q2, q4, e2]
          exact fr_eq rfl (by rw [fall (ent_no1 (kind_f (by simp at q1 q2 q3 q4 e2; omega)))])
        · refine w_drw (by kernel_rfl) ?_
          simp only [go_sem, Nat.reduceEqDiff, reduceIte, Nat.reduceAdd, Nat.reduceMul, Nat.reduceLeDiff, Int.reduceLT, Int.reduceLE, Int.reduceToNat, Int.reduceAdd, Int.reduceNeg, Int.reduceEq, hz, m1, m2, m3, m4, q1, q3, q2, q4, e2]
          have hkd : kindB x.kind x.sites.length = true := kind_t (by simp at q1 q2 q3 q4 e2; omega)
          have hent : x.sites.all keyB = true → entB x = true := fun ha => by unfold entB; rw [hkd, ha, hnum]; rfl
          exact rsites x n l (fun hb => fall (ent_all hb)) _ _ _ _ _ (fun ha s' => hstep (hent ha) (hok (hent ha)) s') (kindB_le hkd).1 _
      · cases e2 : decide ((2 : Int) ≤ (x.sites.length : Int))
        · refine w_drw (by kernel_rfl) ?_
          simp only [go_sem, Nat.reduceEqDiff, reduceIte, Nat.reduceAdd, Nat.reduceMul, Nat.reduceLeDiff, Int.reduceLT, Int.reduceLE, Int.reduceToNat, Int.reduceAdd, Int.reduceNeg, Int.reduceEq, hz, m1, m2, m3, m4, q1, q3, q2, q4, e2]
          exact fr_eq rfl (by rw [fall (ent_no1 (kind_f (by simp at q1 q2 q3 q4 e2; omega)))])
        · cases e4 : decide ((x.sites.length : Int) ≤ 4)
          · refine w_drw (by kernel_rfl) ?_
            simp only [go_sem, Nat.reduceEqDiff, reduceIte, Nat.reduceAdd, Nat.reduceMul, Nat.reduceLeDiff, Int.reduceLT, Int.reduceLE, Int.reduceToNat, Int.reduceAdd, Int.reduceNeg, Int.reduceEq, hz, m1, m2, m3, m4, q1, q3, q2, q4, e2, e4]
            exact fr_eq rfl (by rw [fall (ent_no1 (kind_f (by simp at q1 q2 q3 q4 e4; omega)))])
          · refine w_drw (by kernel_rfl) ?_
            simp only [go_sem, Nat.reduceEqDiff, reduceIte, Nat.reduceAdd, Nat.reduceMul, Nat.reduceLeDiff, Int.reduceLT, Int.reduceLE, Int.reduceToNat, Int.reduceAdd, Int.reduceNeg, Int.reduceEq, hz, m1, m2, m3, m4, q1, q3, q2, q4, e2, e4]
            have hkd : kindB x.kind x.sites.length = true := kind_t (by simp at q1 q2 q3 q4 e2 e4; omega)
            have hent : x.sites.all keyB = true → entB x = true := fun ha => by unfold entB; rw [hkd, ha, hnum]; rfl
            exact rsites x n l (fun hb => fall (ent_all hb)) _ _ _ _ _ (fun ha s' => hstep (hent ha) (hok (hent ha)) s') (kindB_le hkd).1 _
      · refine w_drw (by kernel_rfl) ?_
        simp only [go_sem, Nat.reduceEqDiff, reduceIte, Nat.reduceAdd, Nat.reduceMul, Nat.reduceLeDiff, Int.reduceLT, Int.reduceLE, Int.reduceToNat, Int.reduceAdd, Int.reduceNeg, Int.reduceEq, hz, m1, m2, m3, m4, q1, q3, q2, q4]
        exact fr_eq rfl (by rw [fall (ent_no1 (kind_f (by simp at q1 q2 q3 q4; omega)))])
    · obtain ⟨j, hij⟩ : ∃ j, i = j + 1 := ⟨i - 1, by simp at hz; omega⟩
      obtain ⟨p, hp, -, hpm⟩ := at_some (show j < l.length by omega)
      have hcmp := cent_fn p x (ho p hpm) (ho x hm)
      have hd : IntKind.i64.wrap ((i : Int) - 1) = (j : Int) := by subst hij; exact dec64 (by omega)
      cases hc : decide (0 ≤ ecmp p x)
      rotate_left
      · refine w_drw (by kernel_rfl) ?_
        simp only [go_sem, Nat.reduceEqDiff, reduceIte, Nat.reduceAdd, Nat.reduceMul, Nat.reduceLeDiff, Int.reduceLT, Int.reduceLE, Int.reduceToNat, Int.reduceAdd, Int.reduceNeg, Int.reduceEq, hz, hd, List.getElem?_map, hp]
        refine wgx_fn hcmp (by simp only [go_sem]) ?_
        simp only [go_sem, Nat.reduceEqDiff, reduceIte, Nat.reduceAdd, Nat.reduceMul, Nat.reduceLeDiff, Int.reduceLT, Int.reduceLE, Int.reduceToNat, Int.reduceAdd, Int.reduceNeg, Int.reduceEq, hc]
        exact fr_eq rfl (by rw [valid_no2 h (by subst hij; rw [okAt_s hp hx, decide_eq_false (show ¬ ecmp p x < 0 by simp at hc; omega)]; simp)])
      have hok : entB x = true → okAt l i = true := fun hb => by subst hij; rw [okAt_s hp hx, hb, decide_eq_true (show ecmp p x < 0 by simp at hc; omega)]; rfl
      cases m1 : decide (x.seen < 1)
      rotate_left
      · refine w_drw (by kernel_rfl) ?_
        simp only [go_sem, Nat.reduceEqDiff, reduceIte, Nat.reduceAdd, Nat.reduceMul, Nat.reduceLeDiff, Int.reduceLT, Int.reduceLE, Int.reduceToNat, Int.reduceAdd, Int.reduceNeg, Int.reduceEq, hz, hd, List.getElem?_map, hp]
        refine wgx_fn hcmp (by simp only [go_sem]) ?_
        simp only [go_sem, Nat.reduceEqDiff, reduceIte, Nat.reduceAdd, Nat.reduceMul, Nat.reduceLeDiff, Int.reduceLT, Int.reduceLE, Int.reduceToNat, Int.reduceAdd, Int.reduceNeg, Int.reduceEq, hc, m1]
        exact fr_eq rfl (by rw [fall (ent_num (num_no (.inl (by simpa using m1))))])
      cases m2 : decide (1073741824 < x.seen)
      rotate_left
      · refine w_drw (by kernel_rfl) ?_
        simp only [go_sem, Nat.reduceEqDiff, reduceIte, Nat.reduceAdd, Nat.reduceMul, Nat.reduceLeDiff, Int.reduceLT, Int.reduceLE, Int.reduceToNat, Int.reduceAdd, Int.reduceNeg, Int.reduceEq, hz, hd, List.getElem?_map, hp]
        refine wgx_fn hcmp (by simp only [go_sem]) ?_
        simp only [go_sem, Nat.reduceEqDiff, reduceIte, Nat.reduceAdd, Nat.reduceMul, Nat.reduceLeDiff, Int.reduceLT, Int.reduceLE, Int.reduceToNat, Int.reduceAdd, Int.reduceNeg, Int.reduceEq, hc, m1, m2]
        exact fr_eq rfl (by rw [fall (ent_num (num_no (.inr (.inl (by simpa using m2)))))])
      cases m3 : decide (x.missed < 0)
      rotate_left
      · refine w_drw (by kernel_rfl) ?_
        simp only [go_sem, Nat.reduceEqDiff, reduceIte, Nat.reduceAdd, Nat.reduceMul, Nat.reduceLeDiff, Int.reduceLT, Int.reduceLE, Int.reduceToNat, Int.reduceAdd, Int.reduceNeg, Int.reduceEq, hz, hd, List.getElem?_map, hp]
        refine wgx_fn hcmp (by simp only [go_sem]) ?_
        simp only [go_sem, Nat.reduceEqDiff, reduceIte, Nat.reduceAdd, Nat.reduceMul, Nat.reduceLeDiff, Int.reduceLT, Int.reduceLE, Int.reduceToNat, Int.reduceAdd, Int.reduceNeg, Int.reduceEq, hc, m1, m2, m3]
        exact fr_eq rfl (by rw [fall (ent_num (num_no (.inr (.inr (.inl (by simpa using m3))))))])
      cases m4 : decide (7 < x.missed)
      rotate_left
      · refine w_drw (by kernel_rfl) ?_
        simp only [go_sem, Nat.reduceEqDiff, reduceIte, Nat.reduceAdd, Nat.reduceMul, Nat.reduceLeDiff, Int.reduceLT, Int.reduceLE, Int.reduceToNat, Int.reduceAdd, Int.reduceNeg, Int.reduceEq, hz, hd, List.getElem?_map, hp]
        refine wgx_fn hcmp (by simp only [go_sem]) ?_
        simp only [go_sem, Nat.reduceEqDiff, reduceIte, Nat.reduceAdd, Nat.reduceMul, Nat.reduceLeDiff, Int.reduceLT, Int.reduceLE, Int.reduceToNat, Int.reduceAdd, Int.reduceNeg, Int.reduceEq, hc, m1, m2, m3, m4]
        exact fr_eq rfl (by rw [fall (ent_num (num_no (.inr (.inr (.inr (by simpa using m4))))))])
      have hnum : numB x = true := by simp at m1 m2 m3 m4; exact num_yes (by omega) (by omega) (by omega) (by omega)
      rcases kind_cases x.kind with ⟨q1, q3, q2, q4⟩ | ⟨q1, q3, q2, q4⟩ | ⟨q1, q3, q2, q4⟩ | ⟨q1, q3, q2, q4⟩ | ⟨q1, q3, q2, q4⟩
      · cases e2 : ((x.sites.length : Int) == 2)
        · refine w_drw (by kernel_rfl) ?_
          simp only [go_sem, Nat.reduceEqDiff, reduceIte, Nat.reduceAdd, Nat.reduceMul, Nat.reduceLeDiff, Int.reduceLT, Int.reduceLE, Int.reduceToNat, Int.reduceAdd, Int.reduceNeg, Int.reduceEq, hz, hd, List.getElem?_map, hp]
          refine wgx_fn hcmp (by simp only [go_sem]) ?_
          simp only [go_sem, Nat.reduceEqDiff, reduceIte, Nat.reduceAdd, Nat.reduceMul, Nat.reduceLeDiff, Int.reduceLT, Int.reduceLE, Int.reduceToNat, Int.reduceAdd, Int.reduceNeg, Int.reduceEq, hc, m1, m2, m3, m4, q1, q3, q2, q4, e2]
          exact fr_eq rfl (by rw [fall (ent_no1 (kind_f (by simp at q1 q2 q3 q4 e2; omega)))])
        · refine w_drw (by kernel_rfl) ?_
          simp only [go_sem, Nat.reduceEqDiff, reduceIte, Nat.reduceAdd, Nat.reduceMul, Nat.reduceLeDiff, Int.reduceLT, Int.reduceLE, Int.reduceToNat, Int.reduceAdd, Int.reduceNeg, Int.reduceEq, hz, hd, List.getElem?_map, hp]
          refine wgx_fn hcmp (by simp only [go_sem]) ?_
          simp only [go_sem, Nat.reduceEqDiff, reduceIte, Nat.reduceAdd, Nat.reduceMul, Nat.reduceLeDiff, Int.reduceLT, Int.reduceLE, Int.reduceToNat, Int.reduceAdd, Int.reduceNeg, Int.reduceEq, hc, m1, m2, m3, m4, q1, q3, q2, q4, e2]
          have hkd : kindB x.kind x.sites.length = true := kind_t (by simp at q1 q2 q3 q4 e2; omega)
          have hent : x.sites.all keyB = true → entB x = true := fun ha => by unfold entB; rw [hkd, ha, hnum]; rfl
          exact rsites x n l (fun hb => fall (ent_all hb)) _ _ _ _ _ (fun ha s' => hstep (hent ha) (hok (hent ha)) s') (kindB_le hkd).1 _
      · cases e2 : ((x.sites.length : Int) == 2)
        · refine w_drw (by kernel_rfl) ?_
          simp only [go_sem, Nat.reduceEqDiff, reduceIte, Nat.reduceAdd, Nat.reduceMul, Nat.reduceLeDiff, Int.reduceLT, Int.reduceLE, Int.reduceToNat, Int.reduceAdd, Int.reduceNeg, Int.reduceEq, hz, hd, List.getElem?_map, hp]
          refine wgx_fn hcmp (by simp only [go_sem]) ?_
          simp only [go_sem, Nat.reduceEqDiff, reduceIte, Nat.reduceAdd, Nat.reduceMul, Nat.reduceLeDiff, Int.reduceLT, Int.reduceLE, Int.reduceToNat, Int.reduceAdd, Int.reduceNeg, Int.reduceEq, hc, m1, m2, m3, m4, q1, q3, q2, q4, e2]
          exact fr_eq rfl (by rw [fall (ent_no1 (kind_f (by simp at q1 q2 q3 q4 e2; omega)))])
        · refine w_drw (by kernel_rfl) ?_
          simp only [go_sem, Nat.reduceEqDiff, reduceIte, Nat.reduceAdd, Nat.reduceMul, Nat.reduceLeDiff, Int.reduceLT, Int.reduceLE, Int.reduceToNat, Int.reduceAdd, Int.reduceNeg, Int.reduceEq, hz, hd, List.getElem?_map, hp]
          refine wgx_fn hcmp (by simp only [go_sem]) ?_
          simp only [go_sem, Nat.reduceEqDiff, reduceIte, Nat.reduceAdd, Nat.reduceMul, Nat.reduceLeDiff, Int.reduceLT, Int.reduceLE, Int.reduceToNat, Int.reduceAdd, Int.reduceNeg, Int.reduceEq, hc, m1, m2, m3, m4, q1, q3, q2, q4, e2]
          have hkd : kindB x.kind x.sites.length = true := kind_t (by simp at q1 q2 q3 q4 e2; omega)
          have hent : x.sites.all keyB = true → entB x = true := fun ha => by unfold entB; rw [hkd, ha, hnum]; rfl
          exact rsites x n l (fun hb => fall (ent_all hb)) _ _ _ _ _ (fun ha s' => hstep (hent ha) (hok (hent ha)) s') (kindB_le hkd).1 _
      · cases e2 : ((x.sites.length : Int) == 4)
        · refine w_drw (by kernel_rfl) ?_
          simp only [go_sem, Nat.reduceEqDiff, reduceIte, Nat.reduceAdd, Nat.reduceMul, Nat.reduceLeDiff, Int.reduceLT, Int.reduceLE, Int.reduceToNat, Int.reduceAdd, Int.reduceNeg, Int.reduceEq, hz, hd, List.getElem?_map, hp]
          refine wgx_fn hcmp (by simp only [go_sem]) ?_
          simp only [go_sem, Nat.reduceEqDiff, reduceIte, Nat.reduceAdd, Nat.reduceMul, Nat.reduceLeDiff, Int.reduceLT, Int.reduceLE, Int.reduceToNat, Int.reduceAdd, Int.reduceNeg, Int.reduceEq, hc, m1, m2, m3, m4, q1, q3, q2, q4, e2]
          exact fr_eq rfl (by rw [fall (ent_no1 (kind_f (by simp at q1 q2 q3 q4 e2; omega)))])
        · refine w_drw (by kernel_rfl) ?_
          simp only [go_sem, Nat.reduceEqDiff, reduceIte, Nat.reduceAdd, Nat.reduceMul, Nat.reduceLeDiff, Int.reduceLT, Int.reduceLE, Int.reduceToNat, Int.reduceAdd, Int.reduceNeg, Int.reduceEq, hz, hd, List.getElem?_map, hp]
          refine wgx_fn hcmp (by simp only [go_sem]) ?_
          simp only [go_sem, Nat.reduceEqDiff, reduceIte, Nat.reduceAdd, Nat.reduceMul, Nat.reduceLeDiff, Int.reduceLT, Int.reduceLE, Int.reduceToNat, Int.reduceAdd, Int.reduceNeg, Int.reduceEq, hc, m1, m2, m3, m4, q1, q3, q2, q4, e2]
          have hkd : kindB x.kind x.sites.length = true := kind_t (by simp at q1 q2 q3 q4 e2; omega)
          have hent : x.sites.all keyB = true → entB x = true := fun ha => by unfold entB; rw [hkd, ha, hnum]; rfl
          exact rsites x n l (fun hb => fall (ent_all hb)) _ _ _ _ _ (fun ha s' => hstep (hent ha) (hok (hent ha)) s') (kindB_le hkd).1 _
      · cases e2 : decide ((2 : Int) ≤ (x.sites.length : Int))
        · refine w_drw (by kernel_rfl) ?_
          simp only [go_sem, Nat.reduceEqDiff, reduceIte, Nat.reduceAdd, Nat.reduceMul, Nat.reduceLeDiff, Int.reduceLT, Int.reduceLE, Int.reduceToNat, Int.reduceAdd, Int.reduceNeg, Int.reduceEq, hz, hd, List.getElem?_map, hp]
          refine wgx_fn hcmp (by simp only [go_sem]) ?_
          simp only [go_sem, Nat.reduceEqDiff, reduceIte, Nat.reduceAdd, Nat.reduceMul, Nat.reduceLeDiff, Int.reduceLT, Int.reduceLE, Int.reduceToNat, Int.reduceAdd, Int.reduceNeg, Int.reduceEq, hc, m1, m2, m3, m4, q1, q3, q2, q4, e2]
          exact fr_eq rfl (by rw [fall (ent_no1 (kind_f (by simp at q1 q2 q3 q4 e2; omega)))])
        · cases e4 : decide ((x.sites.length : Int) ≤ 4)
          · refine w_drw (by kernel_rfl) ?_
            simp only [go_sem, Nat.reduceEqDiff, reduceIte, Nat.reduceAdd, Nat.reduceMul, Nat.reduceLeDiff, Int.reduceLT, Int.reduceLE, Int.reduceToNat, Int.reduceAdd, Int.reduceNeg, Int.reduceEq, hz, hd, List.getElem?_map, hp]
            refine wgx_fn hcmp (by simp only [go_sem]) ?_
            simp only [go_sem, Nat.reduceEqDiff, reduceIte, Nat.reduceAdd, Nat.reduceMul, Nat.reduceLeDiff, Int.reduceLT, Int.reduceLE, Int.reduceToNat, Int.reduceAdd, Int.reduceNeg, Int.reduceEq, hc, m1, m2, m3, m4, q1, q3, q2, q4, e2, e4]
            exact fr_eq rfl (by rw [fall (ent_no1 (kind_f (by simp at q1 q2 q3 q4 e4; omega)))])
          · refine w_drw (by kernel_rfl) ?_
            simp only [go_sem, Nat.reduceEqDiff, reduceIte, Nat.reduceAdd, Nat.reduceMul, Nat.reduceLeDiff, Int.reduceLT, Int.reduceLE, Int.reduceToNat, Int.reduceAdd, Int.reduceNeg, Int.reduceEq, hz, hd, List.getElem?_map, hp]
            refine wgx_fn hcmp (by simp only [go_sem]) ?_
            simp only [go_sem, Nat.reduceEqDiff, reduceIte, Nat.reduceAdd, Nat.reduceMul, Nat.reduceLeDiff, Int.reduceLT, Int.reduceLE, Int.reduceToNat, Int.reduceAdd, Int.reduceNeg, Int.reduceEq, hc, m1, m2, m3, m4, q1, q3, q2, q4, e2, e4]
            have hkd : kindB x.kind x.sites.length = true := kind_t (by simp at q1 q2 q3 q4 e2 e4; omega)
            have hent : x.sites.all keyB = true → entB x = true := fun ha => by unfold entB; rw [hkd, ha, hnum]; rfl
            exact rsites x n l (fun hb => fall (ent_all hb)) _ _ _ _ _ (fun ha s' => hstep (hent ha) (hok (hent ha)) s') (kindB_le hkd).1 _
      · refine w_drw (by kernel_rfl) ?_
        simp only [go_sem, Nat.reduceEqDiff, reduceIte, Nat.reduceAdd, Nat.reduceMul, Nat.reduceLeDiff, Int.reduceLT, Int.reduceLE, Int.reduceToNat, Int.reduceAdd, Int.reduceNeg, Int.reduceEq, hz, hd, List.getElem?_map, hp]
        refine wgx_fn hcmp (by simp only [go_sem]) ?_
        simp only [go_sem, Nat.reduceEqDiff, reduceIte, Nat.reduceAdd, Nat.reduceMul, Nat.reduceLeDiff, Int.reduceLT, Int.reduceLE, Int.reduceToNat, Int.reduceAdd, Int.reduceNeg, Int.reduceEq, hc, m1, m2, m3, m4, q1, q3, q2, q4]
        exact fr_eq rfl (by rw [fall (ent_no1 (kind_f (by simp at q1 q2 q3 q4; omega)))])
  · simp only [go_sem, Nat.reduceEqDiff, reduceIte, Nat.reduceAdd, Nat.reduceMul, Nat.reduceLeDiff, Int.reduceLT, Int.reduceLE, Int.reduceToNat, Int.reduceAdd, Int.reduceNeg, Int.reduceEq, lt_f h]
    exact fr_eq rfl (by rw [valid_yes h1 h2 (by omega) fun j hj => hno j (by omega)])
end Go.Proofs.YtlehfgdhebapeaaGreatDoor.KM
