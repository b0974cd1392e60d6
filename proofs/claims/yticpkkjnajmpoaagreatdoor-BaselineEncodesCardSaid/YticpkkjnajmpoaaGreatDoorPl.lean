/- Walks: Compare and Update of baselines. -/
import Derived.Test.YticpkkjnajmpoaaGreatDoorPk
set_option linter.all false
namespace Go.Proofs.YticpkkjnajmpoaaGreatDoor.KM
open Go
def crow (c : Int × Ent) : List V := .int .i64 c.1 :: c.2.row
theorem crows_len (l : List (Int × Ent)) : ∀ r ∈ l.map crow, r.length = 5 := by
  intro r hr
  obtain ⟨k, _, rfl⟩ := List.mem_map.1 hr
  rfl
theorem crows_row (l : List (Int × Ent)) : ∀ r ∈ l.map crow, r.all V.rowB = true := by
  intro r hr
  obtain ⟨k, _, rfl⟩ := List.mem_map.1 hr
  exact ent_row k.2
theorem crow_refs (l : List (Int × Ent)) : refsL (l.map crow).flatten = [] := refsL_row (rows_all (crows_row l))
theorem cl_row {s : St} {cs : List V} {t : Nat} (h : Cl s) (hr : cs.all V.rowB = true) : Cl (s ++ [.row cs t 0 0]) := cl_push h (by simp only [Ob.refs, refsL_row hr]; simp)
/-- entries that may be in a baseline -/
def okV (x : Ent) : Prop := entB x = true
theorem okV_len {x : Ent} (h : okV x) : x.sites.length ≤ 9223372036854775807 := by have := entB_len h; omega
theorem okV_ne {x : Ent} (h : okV x) : x.sites ≠ [] := by
  have := entB_len h
  intro e
  rw [e] at this
  simp at this
structure Icmp (n0 ob : Nat) (base : St) (d : List (Option Ent × Option Ent)) (s : St) : Prop where
  cl : Cl s
  len : n0 ≤ s.length
  lst : ∃ u, s[ob]? = some (.row [u] 50 0 0) ∧ GW s 5 59 (ob + 1) u ((d.map chg).map crow)
  old : ∀ j, j < ob → s[j]? = base[j]?
theorem icmp_step {n0 ob : Nat} {base : St} {d : List (Option Ent × Option Ent)} {s : St} (h : Icmp n0 ob base d s) (hob : ob < n0) (hd : d.length ≤ 1000) (p : Option Ent × Option Ent) :
    ∃ u u' s', s[ob]? = some (.row [u] 50 0 0) ∧ appV 56 (5, 59) u (.lst 1 [crow (chg p)]) s = some (u', s') ∧ s'[ob]? = some (.row [u] 50 0 0) ∧ u'.cellB = true ∧ s.length ≤ s'.length ∧ Icmp n0 ob base (d ++ [p]) (s'.set ob (.row [u'] 50 0 0)) := by
  obtain ⟨h1, h2, ⟨u, h3, h4⟩, h5⟩ := h
  obtain ⟨u', s', e1, g1, l1, -, f1⟩ := gw_app (bytes := 56) (y := .lst 1 [crow (chg p)]) (ys := [crow (chg p)]) h4 (by omega) rfl (by omega) (crows_len _) (by simpa using crows_len [chg p]) (by simp; omega)
  have hob' := f1 ob (by omega)
  have hc : Cl s' := gw_app_cl h4 rfl e1 (crow_refs _) (by simpa using crow_refs [chg p]) h1
  refine ⟨u, u', s', h3, e1, hob'.trans h3, gw_cell g1, l1, cl_set hc ?_, by simp; omega, ⟨u', by rw [List.getElem?_set_self (by omega)], ?_⟩, fun j hj => ?_⟩
  · intro i hi
    simp only [Ob.refs, refsL, List.append_nil] at hi
    exact gw_refs g1 i hi
  · have := gw_set (j := ob) (x := .row [u'] 50 0 0) g1 (by omega)
    rw [List.map_append, List.map_append]
    exact this
  · rw [List.getElem?_set_ne (by omega), f1 j (by omega)]
    exact h5 j hj
theorem rd_ok {s : St} {ob k : Nat} {u : V} {e : Env} {x : Nat} (q : s[ob]? = some (.row [u] k 0 0)) (he : e.get x = .ptr ob 0 0 := by rfl) : evalOp (.load 1 true (.t x)) e s = some (u, s) := by
  simp only [evalOp, src, he, loadV, q]
  rfl
theorem vcmp_th {n0 ob : Nat} {base : St} (hob : ob < n0) (d : List (Option Ent × Option Ent)) (p : Option Ent × Option Ent) (s : St) (hd : d.length ≤ 1000) (h : Icmp n0 ob base d s) (h1 : ∀ x, p.1 = some x → okV x) (h2 : ∀ x, p.2 = some x → okV x) (h3 : p.1 ≠ none ∨ p.2 ≠ none) :
    ∃ s', Th TT PT 57 [ptrE p.1, ptrE p.2, .ptr ob 0 0] s (.tup []) s' ∧ Icmp n0 ob base (d ++ [p]) s' := by
  obtain ⟨u, u', s', q1, q2, q3, q4, hlen, q5⟩ := icmp_step h hob hd p
  refine ⟨_, Th_all T57 rfl ?_ rfl rfl (by simpa using hlen) q5.cl, q5⟩
  match p, h1, h2, h3 with
  | (none, none), _, _, h3 => simp at h3
  | (none, some y), _, h2, _ =>
    have hc := bcopied_fn y (okV_ne (h2 y rfl)) (by have := entB_len (h2 y rfl); omega)
    simp only [ent_def] at hc
    simp only [chg, crow, ent_def] at q2
    unfold ptrE
    simp only [go_sem, Nat.reduceEqDiff, reduceIte, Nat.reduceAdd, Nat.reduceMul, Nat.reduceLeDiff, Int.reduceLT, Int.reduceLE, Int.reduceToNat, Int.reduceAdd, Int.reduceNeg, Int.reduceEq]
    refine w_drw (by kernel_rfl) ?_
    simp only [go_sem, Nat.reduceEqDiff, reduceIte, Nat.reduceAdd, Nat.reduceMul, Nat.reduceLeDiff, Int.reduceLT, Int.reduceLE, Int.reduceToNat, Int.reduceAdd, Int.reduceNeg, Int.reduceEq, q1]
    refine wgx_fn hc (by simp only [go_sem]) ?_
    simp only [go_sem, Nat.reduceEqDiff, reduceIte, Nat.reduceAdd, Nat.reduceMul, Nat.reduceLeDiff, Int.reduceLT, Int.reduceLE, Int.reduceToNat, Int.reduceAdd, Int.reduceNeg, Int.reduceEq]
    refine wgk_ef' (by repeat (first | exact trivial | refine ⟨.inl (by rfl), ?_⟩ | refine ⟨by rfl, ?_⟩ | refine ⟨.inr ⟨by rfl, by rfl⟩, ?_⟩)) ⟨.inl (by rfl), .inr ⟨rd_ok q1, rd_ok q1⟩, trivial⟩ ?_
    simp only [go_sem, Nat.reduceEqDiff, reduceIte, Nat.reduceAdd, Nat.reduceMul, Nat.reduceLeDiff, Int.reduceLT, Int.reduceLE, Int.reduceToNat, Int.reduceAdd, Int.reduceNeg, Int.reduceEq, q2]
    refine wgk_ef' (by repeat (first | exact trivial | refine ⟨.inl (by rfl), ?_⟩ | refine ⟨by rfl, ?_⟩ | refine ⟨.inr ⟨by rfl, by rfl⟩, ?_⟩)) (by repeat (first | exact trivial | refine ⟨.inl (by rfl), ?_⟩ | refine ⟨by rfl, ?_⟩ | refine ⟨.inr ⟨by rfl, by rfl⟩, ?_⟩)) ?_
    simp only [go_sem, Nat.reduceEqDiff, reduceIte, Nat.reduceAdd, Nat.reduceMul, Nat.reduceLeDiff, Int.reduceLT, Int.reduceLE, Int.reduceToNat, Int.reduceAdd, Int.reduceNeg, Int.reduceEq, q3, cells1 q4, q4]
    refine wgk_ef' (by repeat (first | exact trivial | refine ⟨.inl (by rfl), ?_⟩ | refine ⟨by rfl, ?_⟩ | refine ⟨.inr ⟨by rfl, by rfl⟩, ?_⟩)) (by repeat (first | exact trivial | refine ⟨.inl (by rfl), ?_⟩ | refine ⟨by rfl, ?_⟩ | refine ⟨.inr ⟨by rfl, by rfl⟩, ?_⟩)) ?_
    simp only [go_sem, Nat.reduceEqDiff, reduceIte, Nat.reduceAdd, Nat.reduceMul, Nat.reduceLeDiff, Int.reduceLT, Int.reduceLE, Int.reduceToNat, Int.reduceAdd, Int.reduceNeg, Int.reduceEq]
    exact ⟨rfl, rfl⟩
  | (some x, none), h1, _, _ =>
    have hc := bcopied_fn x (okV_ne (h1 x rfl)) (by have := entB_len (h1 x rfl); omega)
    simp only [ent_def] at hc
    simp only [chg, crow, ent_def] at q2
    unfold ptrE
    simp only [go_sem, Nat.reduceEqDiff, reduceIte, Nat.reduceAdd, Nat.reduceMul, Nat.reduceLeDiff, Int.reduceLT, Int.reduceLE, Int.reduceToNat, Int.reduceAdd, Int.reduceNeg, Int.reduceEq]
    refine w_drw (by kernel_rfl) ?_
    simp only [go_sem, Nat.reduceEqDiff, reduceIte, Nat.reduceAdd, Nat.reduceMul, Nat.reduceLeDiff, Int.reduceLT, Int.reduceLE, Int.reduceToNat, Int.reduceAdd, Int.reduceNeg, Int.reduceEq, q1]
    refine wgx_fn hc (by simp only [go_sem]) ?_
    simp only [go_sem, Nat.reduceEqDiff, reduceIte, Nat.reduceAdd, Nat.reduceMul, Nat.reduceLeDiff, Int.reduceLT, Int.reduceLE, Int.reduceToNat, Int.reduceAdd, Int.reduceNeg, Int.reduceEq]
    refine wgk_ef' (by repeat (first | exact trivial | refine ⟨.inl (by rfl), ?_⟩ | refine ⟨by rfl, ?_⟩ | refine ⟨.inr ⟨by rfl, by rfl⟩, ?_⟩)) ⟨.inl (by rfl), .inr ⟨rd_ok q1, rd_ok q1⟩, trivial⟩ ?_
    simp only [go_sem, Nat.reduceEqDiff, reduceIte, Nat.reduceAdd, Nat.reduceMul, Nat.reduceLeDiff, Int.reduceLT, Int.reduceLE, Int.reduceToNat, Int.reduceAdd, Int.reduceNeg, Int.reduceEq, q2]
    refine wgk_ef' (by repeat (first | exact trivial | refine ⟨.inl (by rfl), ?_⟩ | refine ⟨by rfl, ?_⟩ | refine ⟨.inr ⟨by rfl, by rfl⟩, ?_⟩)) (by repeat (first | exact trivial | refine ⟨.inl (by rfl), ?_⟩ | refine ⟨by rfl, ?_⟩ | refine ⟨.inr ⟨by rfl, by rfl⟩, ?_⟩)) ?_
    simp only [go_sem, Nat.reduceEqDiff, reduceIte, Nat.reduceAdd, Nat.reduceMul, Nat.reduceLeDiff, Int.reduceLT, Int.reduceLE, Int.reduceToNat, Int.reduceAdd, Int.reduceNeg, Int.reduceEq, q3, cells1 q4, q4]
    refine wgk_ef' (by repeat (first | exact trivial | refine ⟨.inl (by rfl), ?_⟩ | refine ⟨by rfl, ?_⟩ | refine ⟨.inr ⟨by rfl, by rfl⟩, ?_⟩)) (by repeat (first | exact trivial | refine ⟨.inl (by rfl), ?_⟩ | refine ⟨by rfl, ?_⟩ | refine ⟨.inr ⟨by rfl, by rfl⟩, ?_⟩)) ?_
    simp only [go_sem, Nat.reduceEqDiff, reduceIte, Nat.reduceAdd, Nat.reduceMul, Nat.reduceLeDiff, Int.reduceLT, Int.reduceLE, Int.reduceToNat, Int.reduceAdd, Int.reduceNeg, Int.reduceEq]
    exact ⟨rfl, rfl⟩
  | (some x, some y), h1, _, _ =>
    cases hm : (x.missed == 0)
    · have hm0 : ¬ x.missed = 0 := by simpa using hm
      have hc := bcopied_fn x (okV_ne (h1 x rfl)) (by have := entB_len (h1 x rfl); omega)
      simp only [ent_def] at hc
      simp only [chg, crow, ent_def, if_neg hm0] at q2
      unfold ptrE
      simp only [go_sem, Nat.reduceEqDiff, reduceIte, Nat.reduceAdd, Nat.reduceMul, Nat.reduceLeDiff, Int.reduceLT, Int.reduceLE, Int.reduceToNat, Int.reduceAdd, Int.reduceNeg, Int.reduceEq, hm]
      refine w_drw (by kernel_rfl) ?_
      simp only [go_sem, Nat.reduceEqDiff, reduceIte, Nat.reduceAdd, Nat.reduceMul, Nat.reduceLeDiff, Int.reduceLT, Int.reduceLE, Int.reduceToNat, Int.reduceAdd, Int.reduceNeg, Int.reduceEq, q1]
      refine wgx_fn hc (by simp only [go_sem]) ?_
      simp only [go_sem, Nat.reduceEqDiff, reduceIte, Nat.reduceAdd, Nat.reduceMul, Nat.reduceLeDiff, Int.reduceLT, Int.reduceLE, Int.reduceToNat, Int.reduceAdd, Int.reduceNeg, Int.reduceEq]
      refine wgk_ef' (by repeat (first | exact trivial | refine ⟨.inl (by rfl), ?_⟩ | refine ⟨by rfl, ?_⟩ | refine ⟨.inr ⟨by rfl, by rfl⟩, ?_⟩)) ⟨.inl (by rfl), .inr ⟨rd_ok q1, rd_ok q1⟩, trivial⟩ ?_
      simp only [go_sem, Nat.reduceEqDiff, reduceIte, Nat.reduceAdd, Nat.reduceMul, Nat.reduceLeDiff, Int.reduceLT, Int.reduceLE, Int.reduceToNat, Int.reduceAdd, Int.reduceNeg, Int.reduceEq, q2]
      refine wgk_ef' (by repeat (first | exact trivial | refine ⟨.inl (by rfl), ?_⟩ | refine ⟨by rfl, ?_⟩ | refine ⟨.inr ⟨by rfl, by rfl⟩, ?_⟩)) (by repeat (first | exact trivial | refine ⟨.inl (by rfl), ?_⟩ | refine ⟨by rfl, ?_⟩ | refine ⟨.inr ⟨by rfl, by rfl⟩, ?_⟩)) ?_
      simp only [go_sem, Nat.reduceEqDiff, reduceIte, Nat.reduceAdd, Nat.reduceMul, Nat.reduceLeDiff, Int.reduceLT, Int.reduceLE, Int.reduceToNat, Int.reduceAdd, Int.reduceNeg, Int.reduceEq, q3, cells1 q4, q4]
      refine wgk_ef' (by repeat (first | exact trivial | refine ⟨.inl (by rfl), ?_⟩ | refine ⟨by rfl, ?_⟩ | refine ⟨.inr ⟨by rfl, by rfl⟩, ?_⟩)) (by repeat (first | exact trivial | refine ⟨.inl (by rfl), ?_⟩ | refine ⟨by rfl, ?_⟩ | refine ⟨.inr ⟨by rfl, by rfl⟩, ?_⟩)) ?_
      simp only [go_sem, Nat.reduceEqDiff, reduceIte, Nat.reduceAdd, Nat.reduceMul, Nat.reduceLeDiff, Int.reduceLT, Int.reduceLE, Int.reduceToNat, Int.reduceAdd, Int.reduceNeg, Int.reduceEq]
      exact ⟨rfl, rfl⟩
    · have hm0 : x.missed = 0 := by simpa using hm
      have hc := bcopied_fn x (okV_ne (h1 x rfl)) (by have := entB_len (h1 x rfl); omega)
      simp only [ent_def] at hc
      simp only [chg, crow, ent_def, if_pos hm0] at q2
      unfold ptrE
      simp only [go_sem, Nat.reduceEqDiff, reduceIte, Nat.reduceAdd, Nat.reduceMul, Nat.reduceLeDiff, Int.reduceLT, Int.reduceLE, Int.reduceToNat, Int.reduceAdd, Int.reduceNeg, Int.reduceEq, hm]
      refine w_drw (by kernel_rfl) ?_
      simp only [go_sem, Nat.reduceEqDiff, reduceIte, Nat.reduceAdd, Nat.reduceMul, Nat.reduceLeDiff, Int.reduceLT, Int.reduceLE, Int.reduceToNat, Int.reduceAdd, Int.reduceNeg, Int.reduceEq, q1]
      refine wgx_fn hc (by simp only [go_sem]) ?_
      simp only [go_sem, Nat.reduceEqDiff, reduceIte, Nat.reduceAdd, Nat.reduceMul, Nat.reduceLeDiff, Int.reduceLT, Int.reduceLE, Int.reduceToNat, Int.reduceAdd, Int.reduceNeg, Int.reduceEq]
      refine wgk_ef' (by repeat (first | exact trivial | refine ⟨.inl (by rfl), ?_⟩ | refine ⟨by rfl, ?_⟩ | refine ⟨.inr ⟨by rfl, by rfl⟩, ?_⟩)) ⟨.inl (by rfl), .inr ⟨rd_ok q1, rd_ok q1⟩, trivial⟩ ?_
      simp only [go_sem, Nat.reduceEqDiff, reduceIte, Nat.reduceAdd, Nat.reduceMul, Nat.reduceLeDiff, Int.reduceLT, Int.reduceLE, Int.reduceToNat, Int.reduceAdd, Int.reduceNeg, Int.reduceEq, q2]
      refine wgk_ef' (by repeat (first | exact trivial | refine ⟨.inl (by rfl), ?_⟩ | refine ⟨by rfl, ?_⟩ | refine ⟨.inr ⟨by rfl, by rfl⟩, ?_⟩)) (by repeat (first | exact trivial | refine ⟨.inl (by rfl), ?_⟩ | refine ⟨by rfl, ?_⟩ | refine ⟨.inr ⟨by rfl, by rfl⟩, ?_⟩)) ?_
      simp only [go_sem, Nat.reduceEqDiff, reduceIte, Nat.reduceAdd, Nat.reduceMul, Nat.reduceLeDiff, Int.reduceLT, Int.reduceLE, Int.reduceToNat, Int.reduceAdd, Int.reduceNeg, Int.reduceEq, q3, cells1 q4, q4]
      refine wgk_ef' (by repeat (first | exact trivial | refine ⟨.inl (by rfl), ?_⟩ | refine ⟨by rfl, ?_⟩ | refine ⟨.inr ⟨by rfl, by rfl⟩, ?_⟩)) (by repeat (first | exact trivial | refine ⟨.inl (by rfl), ?_⟩ | refine ⟨by rfl, ?_⟩ | refine ⟨.inr ⟨by rfl, by rfl⟩, ?_⟩)) ?_
      simp only [go_sem, Nat.reduceEqDiff, reduceIte, Nat.reduceAdd, Nat.reduceMul, Nat.reduceLeDiff, Int.reduceLT, Int.reduceLE, Int.reduceToNat, Int.reduceAdd, Int.reduceNeg, Int.reduceEq]
      exact ⟨rfl, rfl⟩
end Go.Proofs.YticpkkjnajmpoaaGreatDoor.KM
