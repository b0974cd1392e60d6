/- Walks: which values are baselines: keys, entries. -/
import Derived.Test.YtlehfgdhebapeaaGreatDoorPg
set_option linter.all false
namespace Go.Proofs.YtlehfgdhebapeaaGreatDoor.KM
open Go
theorem key_no1 {k : Key} (h : isNameE k.1 = false) : keyB k = false := by unfold keyB; rw [h]; rfl
theorem key_no2 {k : Key} (h : k.2.1.length < 1) : keyB k = false := by unfold keyB textB; rw [decide_eq_false (show ¬ 1 ≤ k.2.1.length by omega)]; simp
theorem key_no3 {k : Key} (h : 1000 < k.2.1.length) : keyB k = false := by unfold keyB textB; rw [decide_eq_false (show ¬ k.2.1.length ≤ 1000 by omega)]; simp
theorem key_no4 {k : Key} (h : k.2.2 < 0) : keyB k = false := by unfold keyB; rw [decide_eq_false (show ¬ 0 ≤ k.2.2 by omega)]; simp
theorem key_no5 {k : Key} (h : 60 ≤ k.2.2) : keyB k = false := by unfold keyB; rw [decide_eq_false (show ¬ k.2.2 < 60 by omega)]; simp
theorem key_no6 {k : Key} {i : Nat} {c : UInt8} (hc : k.2.1[i]? = some c) (h : c.toNat < 32 ∨ 126 < c.toNat) : keyB k = false := by
  unfold keyB textB
  have : (k.2.1.all fun c => decide (32 ≤ c.toNat) && decide (c.toNat ≤ 126)) = false := by
    rw [← Bool.not_eq_true]
    intro ha
    have := List.all_eq_true.1 ha c (List.mem_of_getElem? hc)
    simp only [Bool.and_eq_true, decide_eq_true_eq] at this
    omega
  rw [this]
  simp
theorem key_yes {k : Key} (h1 : isNameE k.1 = true) (h2 : 1 ≤ k.2.1.length) (h3 : k.2.1.length ≤ 1000) (h4 : 0 ≤ k.2.2) (h5 : k.2.2 < 60) (h6 : ∀ (i : Nat) (c : UInt8), k.2.1[i]? = some c → 32 ≤ c.toNat ∧ c.toNat ≤ 126) : keyB k = true := by
  unfold keyB textB
  have : (k.2.1.all fun c => decide (32 ≤ c.toNat) && decide (c.toNat ≤ 126)) = true := by
    rw [List.all_eq_true]
    intro c hc
    obtain ⟨i, hi, rfl⟩ := List.getElem_of_mem hc
    have := h6 i _ (List.getElem?_eq_getElem hi)
    simp only [Bool.and_eq_true, decide_eq_true_eq]
    exact this
  rw [h1, this, decide_eq_true h2, decide_eq_true h3, decide_eq_true h4, decide_eq_true h5]
  rfl
theorem vkey_fn (k : Key) : Fn TT PT 150 [.agg (krow k)] (.bool (keyB k)) := by
  refine Fn_go T150 rfl ?_
  unfold krow
  simp only [go_sem, Nat.reduceEqDiff, reduceIte, Nat.reduceAdd, Nat.reduceMul, Nat.reduceLeDiff, Int.reduceLT, Int.reduceLE, Int.reduceToNat, Int.reduceAdd, Int.reduceNeg, Int.reduceEq]
  refine wx_pr P190 rfl (by rfl) ?_
  cases h0 : isNameE k.1
  · simp only [go_sem, Nat.reduceEqDiff, reduceIte, Nat.reduceAdd, Nat.reduceMul, Nat.reduceLeDiff, Int.reduceLT, Int.reduceLE, Int.reduceToNat, Int.reduceAdd, Int.reduceNeg, Int.reduceEq]
    exact fr_eq rfl (by rw [key_no1 h0])
  cases h1 : decide ((k.2.1.length : Int) < 1)
  rotate_left
  · simp only [go_sem, Nat.reduceEqDiff, reduceIte, Nat.reduceAdd, Nat.reduceMul, Nat.reduceLeDiff, Int.reduceLT, Int.reduceLE, Int.reduceToNat, Int.reduceAdd, Int.reduceNeg, Int.reduceEq, h1]
    exact fr_eq rfl (by rw [key_no2 (by simp at h1; omega)])
  cases h2 : decide ((1000 : Int) < (k.2.1.length : Int))
  rotate_left
  · simp only [go_sem, Nat.reduceEqDiff, reduceIte, Nat.reduceAdd, Nat.reduceMul, Nat.reduceLeDiff, Int.reduceLT, Int.reduceLE, Int.reduceToNat, Int.reduceAdd, Int.reduceNeg, Int.reduceEq, h1, h2]
    exact fr_eq rfl (by rw [key_no3 (by simp at h2; omega)])
  cases h3 : decide (k.2.2 < 0)
  rotate_left
  · simp only [go_sem, Nat.reduceEqDiff, reduceIte, Nat.reduceAdd, Nat.reduceMul, Nat.reduceLeDiff, Int.reduceLT, Int.reduceLE, Int.reduceToNat, Int.reduceAdd, Int.reduceNeg, Int.reduceEq, h1, h2, h3]
    exact fr_eq rfl (by rw [key_no4 (by simpa using h3)])
  cases h4 : decide (60 ≤ k.2.2)
  rotate_left
  · simp only [go_sem, Nat.reduceEqDiff, reduceIte, Nat.reduceAdd, Nat.reduceMul, Nat.reduceLeDiff, Int.reduceLT, Int.reduceLE, Int.reduceToNat, Int.reduceAdd, Int.reduceNeg, Int.reduceEq, h1, h2, h3, h4]
    exact fr_eq rfl (by rw [key_no5 (by simpa using h4)])
  simp only [go_sem, Nat.reduceEqDiff, reduceIte, Nat.reduceAdd, Nat.reduceMul, Nat.reduceLeDiff, Int.reduceLT, Int.reduceLE, Int.reduceToNat, Int.reduceAdd, Int.reduceNeg, Int.reduceEq, h1, h2, h3, h4]
  simp at h1 h2 h3 h4
  refine loop_w (fun i => k.2.1.length - i) (fun i : Nat => [(1, .ptr 0 0 0), (32, .int .i64 k.2.1.length), (33, .int .i64 i)]) (fun _ => [.row [.str k.1, .str k.2.1, .int .i64 k.2.2] 52 0 0]) (fun i => i ≤ k.2.1.length ∧ ∀ (j : Nat) (c : UInt8), j < i → k.2.1[j]? = some c → 32 ≤ c.toNat ∧ c.toNat ≤ 126) ?_ 0 ⟨by omega, fun j c hj => by omega⟩
  rintro i ⟨hi, hno⟩ ih
  refine w_rep (by delta lp150_0; exact rfl) ?_
  rcases Nat.lt_or_ge i k.2.1.length with h | h
  · obtain ⟨c, hc, -, -⟩ := at_some h
    cases h5 : decide (((c.toNat : Nat) : Int) < 32)
    rotate_left
    · simp only [go_sem, Nat.reduceEqDiff, reduceIte, Nat.reduceAdd, Nat.reduceMul, Nat.reduceLeDiff, Int.reduceLT, Int.reduceLE, Int.reduceToNat, Int.reduceAdd, Int.reduceNeg, Int.reduceEq, lt_t h, hc, h5]
      exact fr_eq rfl (by rw [key_no6 hc (.inl (by simp at h5; omega))])
    cases h6 : decide ((126 : Int) < ((c.toNat : Nat) : Int))
    rotate_left
    · simp only [go_sem, Nat.reduceEqDiff, reduceIte, Nat.reduceAdd, Nat.reduceMul, Nat.reduceLeDiff, Int.reduceLT, Int.reduceLE, Int.reduceToNat, Int.reduceAdd, Int.reduceNeg, Int.reduceEq, lt_t h, hc, h5, h6]
      exact fr_eq rfl (by rw [key_no6 hc (.inr (by simp at h6; omega))])
    simp only [go_sem, Nat.reduceEqDiff, reduceIte, Nat.reduceAdd, Nat.reduceMul, Nat.reduceLeDiff, Int.reduceLT, Int.reduceLE, Int.reduceToNat, Int.reduceAdd, Int.reduceNeg, Int.reduceEq, lt_t h, hc, h5, h6, inc64 (show i < 9223372036854775807 by omega)]
    simp at h5 h6
    refine W_keep (ih (i + 1) (by omega) ⟨by omega, fun j c' hj hc' => ?_⟩) rfl
    by_cases e : j = i
    · rw [e, hc] at hc'
      cases hc'
      omega
    · exact hno j c' (by omega) hc'
  · simp only [go_sem, Nat.reduceEqDiff, reduceIte, Nat.reduceAdd, Nat.reduceMul, Nat.reduceLeDiff, Int.reduceLT, Int.reduceLE, Int.reduceToNat, Int.reduceAdd, Int.reduceNeg, Int.reduceEq, lt_f h]
    refine fr_eq rfl ?_
    rw [key_yes h0 (by omega) (by omega) h3 h4 fun i' c hc => hno i' c (by have := (List.getElem?_eq_some_iff.1 hc).1; omega) hc]
theorem rvkey_fn (k : Key) : Fn TT PT 109 [.agg (krow k)] (.bool (keyB k)) := by
  have hn := rname_fn k.1
  refine Fn_go T109 rfl ?_
  unfold krow
  simp only [go_sem, Nat.reduceEqDiff, reduceIte, Nat.reduceAdd, Nat.reduceMul, Nat.reduceLeDiff, Int.reduceLT, Int.reduceLE, Int.reduceToNat, Int.reduceAdd, Int.reduceNeg, Int.reduceEq]
  refine wx_fn hn rfl ?_
  cases h0 : isNameE k.1
  · simp only [go_sem, Nat.reduceEqDiff, reduceIte, Nat.reduceAdd, Nat.reduceMul, Nat.reduceLeDiff, Int.reduceLT, Int.reduceLE, Int.reduceToNat, Int.reduceAdd, Int.reduceNeg, Int.reduceEq]
    exact fr_eq rfl (by rw [key_no1 h0])
  cases h1 : decide ((k.2.1.length : Int) < 1)
  rotate_left
  · simp only [go_sem, Nat.reduceEqDiff, reduceIte, Nat.reduceAdd, Nat.reduceMul, Nat.reduceLeDiff, Int.reduceLT, Int.reduceLE, Int.reduceToNat, Int.reduceAdd, Int.reduceNeg, Int.reduceEq, h1]
    exact fr_eq rfl (by rw [key_no2 (by simp at h1; omega)])
  cases h2 : decide ((1000 : Int) < (k.2.1.length : Int))
  rotate_left
  · simp only [go_sem, Nat.reduceEqDiff, reduceIte, Nat.reduceAdd, Nat.reduceMul, Nat.reduceLeDiff, Int.reduceLT, Int.reduceLE, Int.reduceToNat, Int.reduceAdd, Int.reduceNeg, Int.reduceEq, h1, h2]
    exact fr_eq rfl (by rw [key_no3 (by simp at h2; omega)])
  cases h3 : decide (k.2.2 < 0)
  rotate_left
  · simp only [go_sem, Nat.reduceEqDiff, reduceIte, Nat.reduceAdd, Nat.reduceMul, Nat.reduceLeDiff, Int.reduceLT, Int.reduceLE, Int.reduceToNat, Int.reduceAdd, Int.reduceNeg, Int.reduceEq, h1, h2, h3]
    exact fr_eq rfl (by rw [key_no4 (by simpa using h3)])
  cases h4 : decide (60 ≤ k.2.2)
  rotate_left
  · simp only [go_sem, Nat.reduceEqDiff, reduceIte, Nat.reduceAdd, Nat.reduceMul, Nat.reduceLeDiff, Int.reduceLT, Int.reduceLE, Int.reduceToNat, Int.reduceAdd, Int.reduceNeg, Int.reduceEq, h1, h2, h3, h4]
    exact fr_eq rfl (by rw [key_no5 (by simpa using h4)])
  simp only [go_sem, Nat.reduceEqDiff, reduceIte, Nat.reduceAdd, Nat.reduceMul, Nat.reduceLeDiff, Int.reduceLT, Int.reduceLE, Int.reduceToNat, Int.reduceAdd, Int.reduceNeg, Int.reduceEq, h1, h2, h3, h4]
  simp at h1 h2 h3 h4
  refine loop_w (fun i => k.2.1.length - i) (fun i : Nat => [(1, .ptr 0 0 0), (3, .int .i64 i)]) (fun _ => [.row [.str k.1, .str k.2.1, .int .i64 k.2.2] 52 0 0]) (fun i => i ≤ k.2.1.length ∧ ∀ (j : Nat) (c : UInt8), j < i → k.2.1[j]? = some c → 32 ≤ c.toNat ∧ c.toNat ≤ 126) ?_ 0 ⟨by omega, fun j c hj => by omega⟩
  rintro i ⟨hi, hno⟩ ih
  refine w_rep (by delta lp109_0; exact rfl) ?_
  rcases Nat.lt_or_ge i k.2.1.length with h | h
  · obtain ⟨c, hc, -, -⟩ := at_some h
    cases h5 : decide (((c.toNat : Nat) : Int) < 32)
    rotate_left
    · simp only [go_sem, Nat.reduceEqDiff, reduceIte, Nat.reduceAdd, Nat.reduceMul, Nat.reduceLeDiff, Int.reduceLT, Int.reduceLE, Int.reduceToNat, Int.reduceAdd, Int.reduceNeg, Int.reduceEq, lt_t h, hc, h5]
      exact fr_eq rfl (by rw [key_no6 hc (.inl (by simp at h5; omega))])
    cases h6 : decide ((126 : Int) < ((c.toNat : Nat) : Int))
    rotate_left
    · simp only [go_sem, Nat.reduceEqDiff, reduceIte, Nat.reduceAdd, Nat.reduceMul, Nat.reduceLeDiff, Int.reduceLT, Int.reduceLE, Int.reduceToNat, Int.reduceAdd, Int.reduceNeg, Int.reduceEq, lt_t h, hc, h5, h6]
      exact fr_eq rfl (by rw [key_no6 hc (.inr (by simp at h6; omega))])
    simp only [go_sem, Nat.reduceEqDiff, reduceIte, Nat.reduceAdd, Nat.reduceMul, Nat.reduceLeDiff, Int.reduceLT, Int.reduceLE, Int.reduceToNat, Int.reduceAdd, Int.reduceNeg, Int.reduceEq, lt_t h, hc, h5, h6, inc64 (show i < 9223372036854775807 by omega)]
    simp at h5 h6
    refine W_keep (ih (i + 1) (by omega) ⟨by omega, fun j c' hj hc' => ?_⟩) rfl
    by_cases e : j = i
    · rw [e, hc] at hc'
      cases hc'
      omega
    · exact hno j c' (by omega) hc'
  · simp only [go_sem, Nat.reduceEqDiff, reduceIte, Nat.reduceAdd, Nat.reduceMul, Nat.reduceLeDiff, Int.reduceLT, Int.reduceLE, Int.reduceToNat, Int.reduceAdd, Int.reduceNeg, Int.reduceEq, lt_f h]
    refine fr_eq rfl ?_
    rw [key_yes h0 (by omega) (by omega) h3 h4 fun i' c hc => hno i' c (by have := (List.getElem?_eq_some_iff.1 hc).1; omega) hc]
/-! entries -/
theorem ent_no1 {x : Ent} (h : kindB x.kind x.sites.length = false) : entB x = false := by unfold entB; rw [h]; rfl
theorem ent_no2 {x : Ent} {i : Nat} {k : Key} (hk : x.sites[i]? = some k) (h : keyB k = false) : entB x = false := by
  unfold entB
  have : x.sites.all keyB = false := by
    rw [← Bool.not_eq_true]
    intro ha
    have := List.all_eq_true.1 ha k (List.mem_of_getElem? hk)
    rw [h] at this
    cases this
  rw [this]
  simp
theorem ent_eq {x : Ent} (h1 : kindB x.kind x.sites.length = true) (h2 : ∀ (i : Nat) (k : Key), x.sites[i]? = some k → keyB k = true) : entB x = numB x := by
  unfold entB
  have : x.sites.all keyB = true := by
    rw [List.all_eq_true]
    intro c hc
    obtain ⟨i, hi, rfl⟩ := List.getElem_of_mem hc
    exact h2 i _ (List.getElem?_eq_getElem hi)
  rw [h1, this]
  rfl
theorem num_no {x : Ent} (h : x.seen < 1 ∨ 1073741824 < x.seen ∨ x.missed < 0 ∨ 7 < x.missed) : numB x = false := by
  unfold numB
  rw [← Bool.not_eq_true]
  simp only [Bool.and_eq_true, decide_eq_true_eq]
  omega
theorem num_yes {x : Ent} (h1 : 1 ≤ x.seen) (h2 : x.seen ≤ 1073741824) (h3 : 0 ≤ x.missed) (h4 : x.missed ≤ 7) : numB x = true := by
  unfold numB
  rw [decide_eq_true h1, decide_eq_true h2, decide_eq_true h3, decide_eq_true h4]
  rfl
theorem kind_f {k : Int} {n : Nat} (h : ¬ (((k = 1 ∨ k = 3) ∧ n = 2) ∨ (k = 2 ∧ 2 ≤ n ∧ n ≤ 4) ∨ (k = 4 ∧ n = 4))) : kindB k n = false := by
  rw [← Bool.not_eq_true]
  unfold kindB
  simp only [Bool.or_eq_true, Bool.and_eq_true, beq_iff_eq, decide_eq_true_eq]
  omega
theorem kind_t {k : Int} {n : Nat} (h : ((k = 1 ∨ k = 3) ∧ n = 2) ∨ (k = 2 ∧ 2 ≤ n ∧ n ≤ 4) ∨ (k = 4 ∧ n = 4)) : kindB k n = true := by
  unfold kindB
  simp only [Bool.or_eq_true, Bool.and_eq_true, beq_iff_eq, decide_eq_true_eq]
  omega
theorem w_last {T : Nat → Option AF} {pr : Nat → Option (List V → Option V)} {a b : It} {c c' : AC} {e : Env} {σ : St} {Q : Env → St → Prop} (hc : c = c') (h : W T pr [a, b, .c c'] e σ Q) : W T pr [a, b, .c c] e σ Q := hc ▸ h
def last46 : AC := match af106.body with
  | .seq _ (.seq _ (.seq _ (.seq _ (.seq _ c)))) => c
  | c => c
theorem ventry_tail (x : Ent) (hk : kindB x.kind x.sites.length = true) : W TT PT [.l [1, 29, 30, 31] lp106_0, .b 1, .c last46] [(1, .ptr 0 0 0), (29, x.sl), (30, .int .i64 x.sites.length), (31, .int .i64 0)]
    [.row [.int .i64 x.kind, x.sl, .int .i64 x.seen, .int .i64 x.missed] 131 0 0] (FQ [AR.tmp 2] (.bool (entB x))) := by
  have hn4 := kindB_le hk
  refine w_last (c := last46) (by delta last46 af106; exact rfl) ?_
  refine loop_w (α := Nat × St) (fun a => x.sites.length - a.1) (fun a => [(1, .ptr 0 0 0), (29, x.sl), (30, .int .i64 x.sites.length), (31, .int .i64 a.1)]) (fun a => .row [.int .i64 x.kind, x.sl, .int .i64 x.seen, .int .i64 x.missed] 131 0 0 :: a.2)
    (fun a => a.1 ≤ x.sites.length ∧ ∀ (j : Nat) (k : Key), j < a.1 → x.sites[j]? = some k → keyB k = true) ?_ (0, []) ⟨by simp, fun j k hj => by simp at hj⟩
  rintro ⟨i, s⟩ ⟨hi, hno⟩ ih
  simp only at hi hno ih
  refine w_rep (by delta lp106_0; exact rfl) ?_
  rcases Nat.lt_or_ge i x.sites.length with h | h
  · obtain ⟨k, hx, -, -⟩ := at_some h
    have hv := vkey_fn k
    simp only [krow] at hv
    simp only [go_sem, Nat.reduceEqDiff, reduceIte, Nat.reduceAdd, Nat.reduceMul, Nat.reduceLeDiff, Int.reduceLT, Int.reduceLE, Int.reduceToNat, Int.reduceAdd, Int.reduceNeg, Int.reduceEq, lt_t h, ents_iad, List.getElem?_map, hx, krow]
    refine wx_fn hv rfl ?_
    cases hb : keyB k
    · simp only [go_sem, Nat.reduceEqDiff, reduceIte, Nat.reduceAdd, Nat.reduceMul, Nat.reduceLeDiff, Int.reduceLT, Int.reduceLE, Int.reduceToNat, Int.reduceAdd, Int.reduceNeg, Int.reduceEq]
      exact fr_eq rfl (by rw [ent_no2 hx hb])
    · simp only [go_sem, Nat.reduceEqDiff, reduceIte, Nat.reduceAdd, Nat.reduceMul, Nat.reduceLeDiff, Int.reduceLT, Int.reduceLE, Int.reduceToNat, Int.reduceAdd, Int.reduceNeg, Int.reduceEq, inc64 (show i < 9223372036854775807 by omega)]
      refine W_keep (ih (i + 1, _) (by simp; omega) ⟨by simp; omega, fun j k' hj hk' => ?_⟩) rfl
      by_cases e : j = i
      · rw [e, hx] at hk'
        cases hk'
        exact hb
      · exact hno j k' (by simp at hj; omega) hk'
  · have hall : entB x = numB x := ent_eq hk fun j k hj => hno j k (by have := (List.getElem?_eq_some_iff.1 hj).1; omega) hj
    rw [hall]
    cases m1 : decide (1 ≤ x.seen)
    · simp only [go_sem, Nat.reduceEqDiff, reduceIte, Nat.reduceAdd, Nat.reduceMul, Nat.reduceLeDiff, Int.reduceLT, Int.reduceLE, Int.reduceToNat, Int.reduceAdd, Int.reduceNeg, Int.reduceEq, lt_f h, m1]
      exact fr_eq rfl (by rw [num_no (.inl (by simp at m1; omega))])
    cases m2 : decide (x.seen ≤ 1073741824)
    · simp only [go_sem, Nat.reduceEqDiff, reduceIte, Nat.reduceAdd, Nat.reduceMul, Nat.reduceLeDiff, Int.reduceLT, Int.reduceLE, Int.reduceToNat, Int.reduceAdd, Int.reduceNeg, Int.reduceEq, lt_f h, m1, m2]
      exact fr_eq rfl (by rw [num_no (.inr (.inl (by simp at m2; omega)))])
    cases m3 : decide (0 ≤ x.missed)
    · simp only [go_sem, Nat.reduceEqDiff, reduceIte, Nat.reduceAdd, Nat.reduceMul, Nat.reduceLeDiff, Int.reduceLT, Int.reduceLE, Int.reduceToNat, Int.reduceAdd, Int.reduceNeg, Int.reduceEq, lt_f h, m1, m2, m3]
      exact fr_eq rfl (by rw [num_no (.inr (.inr (.inl (by simp at m3; omega))))])
    cases m4 : decide (x.missed ≤ 7)
    · simp only [go_sem, Nat.reduceEqDiff, reduceIte, Nat.reduceAdd, Nat.reduceMul, Nat.reduceLeDiff, Int.reduceLT, Int.reduceLE, Int.reduceToNat, Int.reduceAdd, Int.reduceNeg, Int.reduceEq, lt_f h, m1, m2, m3, m4]
      exact fr_eq rfl (by rw [num_no (.inr (.inr (.inr (by simp at m4; omega))))])
    simp only [go_sem, Nat.reduceEqDiff, reduceIte, Nat.reduceAdd, Nat.reduceMul, Nat.reduceLeDiff, Int.reduceLT, Int.reduceLE, Int.reduceToNat, Int.reduceAdd, Int.reduceNeg, Int.reduceEq, lt_f h, m1, m2, m3, m4]
    simp at m1 m2 m3 m4
    exact fr_eq rfl (by rw [num_yes m1 m2 m3 m4])
theorem ventry_fn (x : Ent) : Fn TT PT 106 [.agg x.row] (.bool (entB x)) := by
  refine Fn_go T106 rfl ?_
  unfold Ent.row
  cases k1 : (x.kind == 1)
  · cases k3 : (x.kind == 3)
    · cases k2 : (x.kind == 2)
      · cases k4 : (x.kind == 4)
        · simp only [go_sem, Nat.reduceEqDiff, reduceIte, Nat.reduceAdd, Nat.reduceMul, Nat.reduceLeDiff, Int.reduceLT, Int.reduceLE, Int.reduceToNat, Int.reduceAdd, Int.reduceNeg, Int.reduceEq, k1, k2, k3, k4]
          exact fr_eq rfl (by rw [ent_no1 (kind_f (by simp at k1 k2 k3 k4; omega))])
        · cases n1 : decide ((x.sites.length : Int) < 4)
          rotate_left
          · simp only [go_sem, Nat.reduceEqDiff, reduceIte, Nat.reduceAdd, Nat.reduceMul, Nat.reduceLeDiff, Int.reduceLT, Int.reduceLE, Int.reduceToNat, Int.reduceAdd, Int.reduceNeg, Int.reduceEq, k1, k2, k3, k4, n1]
            exact fr_eq rfl (by rw [ent_no1 (kind_f (by simp at n1 k4; omega))])
          cases n2 : decide ((4 : Int) < (x.sites.length : Int))
          rotate_left
          · simp only [go_sem, Nat.reduceEqDiff, reduceIte, Nat.reduceAdd, Nat.reduceMul, Nat.reduceLeDiff, Int.reduceLT, Int.reduceLE, Int.reduceToNat, Int.reduceAdd, Int.reduceNeg, Int.reduceEq, k1, k2, k3, k4, n1, n2]
            exact fr_eq rfl (by rw [ent_no1 (kind_f (by simp at n2 k4; omega))])
          simp only [go_sem, Nat.reduceEqDiff, reduceIte, Nat.reduceAdd, Nat.reduceMul, Nat.reduceLeDiff, Int.reduceLT, Int.reduceLE, Int.reduceToNat, Int.reduceAdd, Int.reduceNeg, Int.reduceEq, k1, k2, k3, k4, n1, n2]
          exact ventry_tail x (kind_t (by simp at n1 n2 k4; omega))
      · cases n1 : decide ((x.sites.length : Int) < 2)
        rotate_left
        · simp only [go_sem, Nat.reduceEqDiff, reduceIte, Nat.reduceAdd, Nat.reduceMul, Nat.reduceLeDiff, Int.reduceLT, Int.reduceLE, Int.reduceToNat, Int.reduceAdd, Int.reduceNeg, Int.reduceEq, k1, k2, k3, n1]
          exact fr_eq rfl (by rw [ent_no1 (kind_f (by simp at n1 k2; omega))])
        cases n2 : decide ((4 : Int) < (x.sites.length : Int))
        rotate_left
        · simp only [go_sem, Nat.reduceEqDiff, reduceIte, Nat.reduceAdd, Nat.reduceMul, Nat.reduceLeDiff, Int.reduceLT, Int.reduceLE, Int.reduceToNat, Int.reduceAdd, Int.reduceNeg, Int.reduceEq, k1, k2, k3, n1, n2]
          exact fr_eq rfl (by rw [ent_no1 (kind_f (by simp at n2 k2; omega))])
        simp only [go_sem, Nat.reduceEqDiff, reduceIte, Nat.reduceAdd, Nat.reduceMul, Nat.reduceLeDiff, Int.reduceLT, Int.reduceLE, Int.reduceToNat, Int.reduceAdd, Int.reduceNeg, Int.reduceEq, k1, k2, k3, n1, n2]
        exact ventry_tail x (kind_t (by simp at n1 n2 k2; omega))
    · cases n1 : decide ((x.sites.length : Int) < 2)
      rotate_left
      · simp only [go_sem, Nat.reduceEqDiff, reduceIte, Nat.reduceAdd, Nat.reduceMul, Nat.reduceLeDiff, Int.reduceLT, Int.reduceLE, Int.reduceToNat, Int.reduceAdd, Int.reduceNeg, Int.reduceEq, k1, k3, n1]
        exact fr_eq rfl (by rw [ent_no1 (kind_f (by simp at n1 k3; omega))])
      cases n2 : decide ((2 : Int) < (x.sites.length : Int))
      rotate_left
      · simp only [go_sem, Nat.reduceEqDiff, reduceIte, Nat.reduceAdd, Nat.reduceMul, Nat.reduceLeDiff, Int.reduceLT, Int.reduceLE, Int.reduceToNat, Int.reduceAdd, Int.reduceNeg, Int.reduceEq, k1, k3, n1, n2]
        exact fr_eq rfl (by rw [ent_no1 (kind_f (by simp at n2 k3; omega))])
      simp only [go_sem, Nat.reduceEqDiff, reduceIte, Nat.reduceAdd, Nat.reduceMul, Nat.reduceLeDiff, Int.reduceLT, Int.reduceLE, Int.reduceToNat, Int.reduceAdd, Int.reduceNeg, Int.reduceEq, k1, k3, n1, n2]
      exact ventry_tail x (kind_t (by simp at n1 n2 k3; omega))
  · cases n1 : decide ((x.sites.length : Int) < 2)
    rotate_left
    · simp only [go_sem, Nat.reduceEqDiff, reduceIte, Nat.reduceAdd, Nat.reduceMul, Nat.reduceLeDiff, Int.reduceLT, Int.reduceLE, Int.reduceToNat, Int.reduceAdd, Int.reduceNeg, Int.reduceEq, k1, n1]
      exact fr_eq rfl (by rw [ent_no1 (kind_f (by simp at n1 k1; omega))])
    cases n2 : decide ((2 : Int) < (x.sites.length : Int))
    rotate_left
    · simp only [go_sem, Nat.reduceEqDiff, reduceIte, Nat.reduceAdd, Nat.reduceMul, Nat.reduceLeDiff, Int.reduceLT, Int.reduceLE, Int.reduceToNat, Int.reduceAdd, Int.reduceNeg, Int.reduceEq, k1, n1, n2]
      exact fr_eq rfl (by rw [ent_no1 (kind_f (by simp at n2 k1; omega))])
    simp only [go_sem, Nat.reduceEqDiff, reduceIte, Nat.reduceAdd, Nat.reduceMul, Nat.reduceLeDiff, Int.reduceLT, Int.reduceLE, Int.reduceToNat, Int.reduceAdd, Int.reduceNeg, Int.reduceEq, k1, n1, n2]
    exact ventry_tail x (kind_t (by simp at n1 n2 k1; omega))
end Go.Proofs.YtlehfgdhebapeaaGreatDoor.KM
