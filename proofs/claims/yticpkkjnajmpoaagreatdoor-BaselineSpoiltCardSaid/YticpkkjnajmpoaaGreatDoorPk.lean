/- Walks: copies of entries, merging. -/
import Derived.Test.YticpkkjnajmpoaaGreatDoorPm
import Derived.Test.YticpkkjnajmpoaaGreatDoorPi
import Derived.Test.YticpkkjnajmpoaaGreatDoorA5
set_option linter.all false
namespace Go.Proofs.YticpkkjnajmpoaaGreatDoor.KM
open Go
theorem sl_ne2 {z : Bool} {t : Nat} {xs : List (List V)} (h : xs ≠ []) : SL z t xs = .lst t xs := by simp [SL, h]
theorem app_e1 {σ : St} {m e bytes : Nat} {y : V} {ys : List (List V)} (hy : srcRows σ m y = some ys) (hn : ys ≠ []) (hm : 0 < m) (hl : ∀ r ∈ ys, r.length = m) (hb : ys.length * bytes ≤ 140737488355328) :
    appV bytes (m, e) (.lst 1 []) y σ = some (.sl σ.length 0 0 ys.length m true, σ ++ [.row ys.flatten e 0 0]) := by
  have hall : (ys.all fun r => r.length == m) = true := by
    rw [List.all_eq_true]
    intro r hr
    simp [hl r hr]
  have he : ys.isEmpty = false := by simpa using hn
  unfold appV
  simp only [hy, Option.bind_some]
  unfold appR
  simp only
  rw [if_pos ⟨hall, hm⟩]
  simp [he, hb]
/-- a threaded function, by what it leaves -/
theorem th_ex {T : Nat → Option AF} {pr : Nat → Option (List V → Option V)} {f p : Nat} {res : List AR} {body : AC} {vs : List V} {v : V} {σ : St} {P : St → Prop} (hT : T f = some ⟨p, res, true, body, none⟩) (hl : vs.length = p)
    (h : W T pr [.c body] (parEnv 0 vs) σ (Hd fun e' σ1 => resV e' σ1 res = some v ∧ P σ1)) (hr : v.refs = []) (ho : okRes v = true) (hP : ∀ s, P s → Cl s ∧ σ.length ≤ s.length) : ∃ σ', Th T pr f vs σ v σ' ∧ P σ' := by
  obtain ⟨e', σ1, hE, h1, h2⟩ := h
  exact ⟨σ1, Th_all hT hl ⟨e', σ1, hE, h1, rfl⟩ hr ho (hP _ h2).2 (hP _ h2).1, h2⟩
theorem eq0_s (j : Nat) : ((((j + 1 : Nat) : Int)) == 0) = false := by simp; omega
def ptrE : Option Ent → V
  | none => .nilp
  | some x => .imm x.row 0
structure MS where
  za : Bool
  ta : Nat
  zb : Bool
  tb : Nat
  a : List Ent
  b : List Ent
  s : St
  d : List (Option Ent × Option Ent)
theorem cut1 (z : Bool) (t : Nat) (x : Ent) (a : List Ent) : ∃ z' t', slcV 4 (SL z t (x.row :: a.map Ent.row)) (some (.int .i64 1)) none none = some (SL z' t' (a.map Ent.row)) := by
  obtain ⟨z', t', h⟩ := sl_cut_lo z t 4 (x.row :: a.map Ent.row) .i64 1 (by simp) (erows_len (x :: a))
  exact ⟨z', t', h⟩
theorem merge_th (fv ob : Nat) (okE1 : Ent → Prop) (hok1 : ∀ x, okE1 x → x.sites.length ≤ 9223372036854775807) (I : List (Option Ent × Option Ent) → St → Prop) (n0 : Nat) (hI : ∀ d s, I d s → Cl s ∧ n0 ≤ s.length)
    (za : Bool) (ta : Nat) (zb : Bool) (tb : Nat) (a b : List Ent)
    (hs : ∀ d p q s, d ++ p :: q = mergeE a b → I d s → (∀ x, p.1 = some x → okE1 x) → (∀ x, p.2 = some x → okE1 x) → (p.1 ≠ none ∨ p.2 ≠ none) → ∃ s', Th TT PT fv [ptrE p.1, ptrE p.2, .ptr ob 0 0] s (.tup []) s' ∧ I (d ++ [p]) s')
    (ha : ∀ x ∈ a, okE1 x) (hb : ∀ x ∈ b, okE1 x) (s : St) (hn : s.length = n0) (h0 : I [] s) :
    ∃ s', Th TT PT 56 [SL za ta (a.map Ent.row), SL zb tb (b.map Ent.row), .fn 42 [] [], .fn fv [] [.ptr ob 0 0]] s (.tup []) s' ∧ I (mergeE a b) s' := by
  refine th_ex T56 rfl ?_ rfl rfl (fun s h => by rw [hn]; exact hI _ _ h)
  simp only [go_sem, Nat.reduceEqDiff, reduceIte, Nat.reduceAdd, Nat.reduceMul, Nat.reduceLeDiff, Int.reduceLT, Int.reduceLE, Int.reduceToNat, Int.reduceAdd, Int.reduceNeg, Int.reduceEq]
  refine loop_w (α := MS) (fun m => m.a.length + m.b.length) (fun m => [(0, SL m.za m.ta (m.a.map Ent.row)), (1, SL m.zb m.tb (m.b.map Ent.row)), (2, .fn 42 [] []), (3, .fn fv [] [.ptr ob 0 0])]) (fun m => m.s)
    (fun m => I m.d m.s ∧ (∀ x ∈ m.a, okE1 x) ∧ (∀ x ∈ m.b, okE1 x) ∧ m.d ++ mergeE m.a m.b = mergeE a b) ?_ ⟨za, ta, zb, tb, a, b, s, []⟩ ⟨h0, ha, hb, rfl⟩
  rintro ⟨za, ta, zb, tb, a1, b1, s, d⟩ ⟨hi, ha, hb, hm⟩ ih
  simp only at hi ha hb hm ih
  refine w_rep (by delta lp56_0; exact rfl) ?_
  have fin : ∀ {za tb zb ta a1 b1} {s' : St} {p : Option Ent × Option Ent} {q : List (Option Ent × Option Ent)}, d ++ p :: q = mergeE a b → mergeE a1 b1 = q → d ++ [p] ++ mergeE (MS.mk za ta zb tb a1 b1 s' (d ++ [p])).a (MS.mk za ta zb tb a1 b1 s' (d ++ [p])).b = mergeE a b := by
    intro za tb zb ta a1 b1 s' p q h1 h2
    simp only [h2]
    rw [← h1, List.append_assoc]
    rfl
  match a1, b1 with
  | [], [] =>
    simp only [go_sem, Nat.reduceEqDiff, reduceIte, Nat.reduceAdd, Nat.reduceMul, Nat.reduceLeDiff, Int.reduceLT, Int.reduceLE, Int.reduceToNat, Int.reduceAdd, Int.reduceNeg, Int.reduceEq]
    simp only [mergeE, List.map_nil, List.append_nil] at hm
    exact ⟨rfl, hm ▸ hi⟩
  | x :: a1, [] =>
    have hm' : d ++ (some x, none) :: mergeE a1 [] = mergeE a b := by rw [← hm]; congr 1; cases a1 <;> simp [mergeE]
    obtain ⟨z', t', hc⟩ := cut1 za ta x a1
    obtain ⟨s', hth, hi'⟩ := hs d (some x, none) _ s hm' hi (fun y e => by cases e; exact ha x List.mem_cons_self) (fun y e => by cases e) (.inl (by simp))
    simp only [ptrE, ent_def] at hth hc
    simp only [go_sem, Nat.reduceEqDiff, reduceIte, Nat.reduceAdd, Nat.reduceMul, Nat.reduceLeDiff, Int.reduceLT, Int.reduceLE, Int.reduceToNat, Int.reduceAdd, Int.reduceNeg, Int.reduceEq, gt_s, eq0_s, List.length_map, beq_self_eq_true]
    refine w_drw (by kernel_rfl) ?_
    simp only [go_sem, Nat.reduceEqDiff, reduceIte, Nat.reduceAdd, Nat.reduceMul, Nat.reduceLeDiff, Int.reduceLT, Int.reduceLE, Int.reduceToNat, Int.reduceAdd, Int.reduceNeg, Int.reduceEq, hc]
    refine wx_th hth ?_
    simp only [go_sem, Nat.reduceEqDiff, reduceIte, Nat.reduceAdd, Nat.reduceMul, Nat.reduceLeDiff, Int.reduceLT, Int.reduceLE, Int.reduceToNat, Int.reduceAdd, Int.reduceNeg, Int.reduceEq]
    refine W_keep (ih ⟨z', t', zb, tb, a1, [], s', d ++ [(some x, none)]⟩ (by simp) ⟨hi', fun y hy => ha y (List.mem_cons_of_mem _ hy), hb, fin hm' rfl⟩) rfl
  | [], y :: b1 =>
    have hm' : d ++ (none, some y) :: mergeE [] b1 = mergeE a b := by rw [← hm]; congr 1; simp [mergeE]
    obtain ⟨z', t', hc⟩ := cut1 zb tb y b1
    obtain ⟨s', hth, hi'⟩ := hs d (none, some y) _ s hm' hi (fun y e => by cases e) (fun x e => by cases e; exact hb y List.mem_cons_self) (.inr (by simp))
    simp only [ptrE, ent_def] at hth hc
    simp only [go_sem, Nat.reduceEqDiff, reduceIte, Nat.reduceAdd, Nat.reduceMul, Nat.reduceLeDiff, Int.reduceLT, Int.reduceLE, Int.reduceToNat, Int.reduceAdd, Int.reduceNeg, Int.reduceEq, gt_s, eq0_s, List.length_map, beq_self_eq_true]
    refine w_drw (by kernel_rfl) ?_
    simp only [go_sem, Nat.reduceEqDiff, reduceIte, Nat.reduceAdd, Nat.reduceMul, Nat.reduceLeDiff, Int.reduceLT, Int.reduceLE, Int.reduceToNat, Int.reduceAdd, Int.reduceNeg, Int.reduceEq, hc]
    refine wx_th hth ?_
    simp only [go_sem, Nat.reduceEqDiff, reduceIte, Nat.reduceAdd, Nat.reduceMul, Nat.reduceLeDiff, Int.reduceLT, Int.reduceLE, Int.reduceToNat, Int.reduceAdd, Int.reduceNeg, Int.reduceEq]
    refine W_keep (ih ⟨za, ta, z', t', [], b1, s', d ++ [(none, some y)]⟩ (by simp) ⟨hi', ha, fun x hx => hb x (List.mem_cons_of_mem _ hx), fin hm' rfl⟩) rfl
  | x :: a1, y :: b1 =>
    obtain ⟨z', t', hc⟩ := cut1 za ta x a1
    obtain ⟨z2, t2, hc2⟩ := cut1 zb tb y b1
    have hcmp := compare_fn x y (hok1 x (ha x List.mem_cons_self)) (hok1 y (hb y List.mem_cons_self))
    simp only [ent_def] at hcmp hc hc2
    rw [mergeE] at hm
    cases h1 : decide (ecmp x y ≤ 0)
    · have h2 : decide (0 ≤ ecmp x y) = true := by simp at h1 ⊢; omega
      rw [if_neg (by simp at h1; omega), if_neg (by simp at h1; omega)] at hm
      obtain ⟨s', hth, hi'⟩ := hs d (none, some y) _ s hm hi (fun y e => by cases e) (fun x e => by cases e; exact hb y List.mem_cons_self) (.inr (by simp))
      simp only [ptrE, ent_def] at hth
      simp only [go_sem, Nat.reduceEqDiff, reduceIte, Nat.reduceAdd, Nat.reduceMul, Nat.reduceLeDiff, Int.reduceLT, Int.reduceLE, Int.reduceToNat, Int.reduceAdd, Int.reduceNeg, Int.reduceEq, gt_s, eq0_s, List.length_map, beq_self_eq_true]
      refine w_drw (by kernel_rfl) ?_
      simp only [go_sem, Nat.reduceEqDiff, reduceIte, Nat.reduceAdd, Nat.reduceMul, Nat.reduceLeDiff, Int.reduceLT, Int.reduceLE, Int.reduceToNat, Int.reduceAdd, Int.reduceNeg, Int.reduceEq]
      refine wgx_fn hcmp (by simp only [go_sem]) ?_
      simp only [go_sem, Nat.reduceEqDiff, reduceIte, Nat.reduceAdd, Nat.reduceMul, Nat.reduceLeDiff, Int.reduceLT, Int.reduceLE, Int.reduceToNat, Int.reduceAdd, Int.reduceNeg, Int.reduceEq, h1, h2]
      refine w_drw (by kernel_rfl) ?_
      simp only [go_sem, Nat.reduceEqDiff, reduceIte, Nat.reduceAdd, Nat.reduceMul, Nat.reduceLeDiff, Int.reduceLT, Int.reduceLE, Int.reduceToNat, Int.reduceAdd, Int.reduceNeg, Int.reduceEq, hc2]
      refine wx_th hth ?_
      simp only [go_sem, Nat.reduceEqDiff, reduceIte, Nat.reduceAdd, Nat.reduceMul, Nat.reduceLeDiff, Int.reduceLT, Int.reduceLE, Int.reduceToNat, Int.reduceAdd, Int.reduceNeg, Int.reduceEq]
      exact W_keep (ih ⟨za, ta, z2, t2, x :: a1, b1, s', d ++ [(none, some y)]⟩ (by simp) ⟨hi', ha, fun x hx => hb x (List.mem_cons_of_mem _ hx), fin hm rfl⟩) rfl
    · cases h2 : decide (0 ≤ ecmp x y)
      · rw [if_pos (by simp at h2; omega)] at hm
        obtain ⟨s', hth, hi'⟩ := hs d (some x, none) _ s hm hi (fun y e => by cases e; exact ha x List.mem_cons_self) (fun y e => by cases e) (.inl (by simp))
        simp only [ptrE, ent_def] at hth
        simp only [go_sem, Nat.reduceEqDiff, reduceIte, Nat.reduceAdd, Nat.reduceMul, Nat.reduceLeDiff, Int.reduceLT, Int.reduceLE, Int.reduceToNat, Int.reduceAdd, Int.reduceNeg, Int.reduceEq, gt_s, eq0_s, List.length_map, beq_self_eq_true]
        refine w_drw (by kernel_rfl) ?_
        simp only [go_sem, Nat.reduceEqDiff, reduceIte, Nat.reduceAdd, Nat.reduceMul, Nat.reduceLeDiff, Int.reduceLT, Int.reduceLE, Int.reduceToNat, Int.reduceAdd, Int.reduceNeg, Int.reduceEq]
        refine wgx_fn hcmp (by simp only [go_sem]) ?_
        simp only [go_sem, Nat.reduceEqDiff, reduceIte, Nat.reduceAdd, Nat.reduceMul, Nat.reduceLeDiff, Int.reduceLT, Int.reduceLE, Int.reduceToNat, Int.reduceAdd, Int.reduceNeg, Int.reduceEq, h1, h2]
        refine w_drw (by kernel_rfl) ?_
        simp only [go_sem, Nat.reduceEqDiff, reduceIte, Nat.reduceAdd, Nat.reduceMul, Nat.reduceLeDiff, Int.reduceLT, Int.reduceLE, Int.reduceToNat, Int.reduceAdd, Int.reduceNeg, Int.reduceEq, hc]
        simp only [go_sem, Nat.reduceEqDiff, reduceIte, Nat.reduceAdd, Nat.reduceMul, Nat.reduceLeDiff, Int.reduceLT, Int.reduceLE, Int.reduceToNat, Int.reduceAdd, Int.reduceNeg, Int.reduceEq, h2]
        refine wx_th hth ?_
        simp only [go_sem, Nat.reduceEqDiff, reduceIte, Nat.reduceAdd, Nat.reduceMul, Nat.reduceLeDiff, Int.reduceLT, Int.reduceLE, Int.reduceToNat, Int.reduceAdd, Int.reduceNeg, Int.reduceEq]
        exact W_keep (ih ⟨z', t', zb, tb, a1, y :: b1, s', d ++ [(some x, none)]⟩ (by simp) ⟨hi', fun y hy => ha y (List.mem_cons_of_mem _ hy), hb, fin hm rfl⟩) rfl
      · have h0 : ecmp x y = 0 := by simp at h1 h2; omega
        rw [if_neg (by omega), if_pos h0] at hm
        obtain ⟨s', hth, hi'⟩ := hs d (some x, some y) _ s hm hi (fun y e => by cases e; exact ha x List.mem_cons_self) (fun x e => by cases e; exact hb y List.mem_cons_self) (.inl (by simp))
        simp only [ptrE, ent_def] at hth
        simp only [go_sem, Nat.reduceEqDiff, reduceIte, Nat.reduceAdd, Nat.reduceMul, Nat.reduceLeDiff, Int.reduceLT, Int.reduceLE, Int.reduceToNat, Int.reduceAdd, Int.reduceNeg, Int.reduceEq, gt_s, eq0_s, List.length_map, beq_self_eq_true]
        refine w_drw (by kernel_rfl) ?_
        simp only [go_sem, Nat.reduceEqDiff, reduceIte, Nat.reduceAdd, Nat.reduceMul, Nat.reduceLeDiff, Int.reduceLT, Int.reduceLE, Int.reduceToNat, Int.reduceAdd, Int.reduceNeg, Int.reduceEq]
        refine wgx_fn hcmp (by simp only [go_sem]) ?_
        simp only [go_sem, Nat.reduceEqDiff, reduceIte, Nat.reduceAdd, Nat.reduceMul, Nat.reduceLeDiff, Int.reduceLT, Int.reduceLE, Int.reduceToNat, Int.reduceAdd, Int.reduceNeg, Int.reduceEq, h1, h2]
        refine w_drw (by kernel_rfl) ?_
        simp only [go_sem, Nat.reduceEqDiff, reduceIte, Nat.reduceAdd, Nat.reduceMul, Nat.reduceLeDiff, Int.reduceLT, Int.reduceLE, Int.reduceToNat, Int.reduceAdd, Int.reduceNeg, Int.reduceEq, hc]
        simp only [go_sem, Nat.reduceEqDiff, reduceIte, Nat.reduceAdd, Nat.reduceMul, Nat.reduceLeDiff, Int.reduceLT, Int.reduceLE, Int.reduceToNat, Int.reduceAdd, Int.reduceNeg, Int.reduceEq, h2]
        refine w_drw (by kernel_rfl) ?_
        simp only [go_sem, Nat.reduceEqDiff, reduceIte, Nat.reduceAdd, Nat.reduceMul, Nat.reduceLeDiff, Int.reduceLT, Int.reduceLE, Int.reduceToNat, Int.reduceAdd, Int.reduceNeg, Int.reduceEq, hc2]
        refine wx_th hth ?_
        simp only [go_sem, Nat.reduceEqDiff, reduceIte, Nat.reduceAdd, Nat.reduceMul, Nat.reduceLeDiff, Int.reduceLT, Int.reduceLE, Int.reduceToNat, Int.reduceAdd, Int.reduceNeg, Int.reduceEq]
        exact W_keep (ih ⟨z', t', z2, t2, a1, b1, s', d ++ [(some x, some y)]⟩ (by simp; omega) ⟨hi', fun y hy => ha y (List.mem_cons_of_mem _ hy), fun x hx => hb x (List.mem_cons_of_mem _ hx), fin hm rfl⟩) rfl
theorem merge_len : ∀ (a b : List Ent), (mergeE a b).length ≤ a.length + b.length
  | [], b => by simp [mergeE]
  | x :: a, [] => by simp [mergeE]
  | x :: a, y :: b => by
    have h1 := merge_len a (y :: b)
    have h2 := merge_len a b
    have h3 := merge_len (x :: a) b
    rw [mergeE]
    split
    · simp at h1 ⊢; omega
    · split
      · simp at h2 ⊢; omega
      · simp at h3 ⊢; omega
termination_by a b => a.length + b.length
end Go.Proofs.YticpkkjnajmpoaaGreatDoor.KM
