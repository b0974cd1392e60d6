/- Walks: the law BaselineLives. -/
import Derived.Test.YticpkkjnajmpoaaGreatDoorPq
set_option linter.all false
namespace Go.Proofs.YticpkkjnajmpoaaGreatDoor.KM
open Go
def msE (k : Nat) (e : Ent) : Ent := { e.own with seen := 1, missed := (k : Int) }
def msL (now : List Ent) (k : Nat) : List Ent := if k < 8 then now.map (msE k) else []
theorem fm_map {α β : Type} {f : α → Option β} {g : α → β} : ∀ {l : List α}, (∀ x ∈ l, f x = some (g x)) → l.filterMap f = l.map g
  | [], _ => rfl
  | x :: l, h => by rw [List.filterMap_cons, h x List.mem_cons_self, fm_map fun y hy => h y (List.mem_cons_of_mem _ hy)]; rfl
theorem msE_ks (k : Nat) (e : Ent) : (msE k e).ks = e.ks := rfl
theorem merge_self {f : Ent → Ent} (hf : ∀ e, (f e).ks = e.ks) : ∀ l : List Ent, mergeE (l.map f) l = l.map fun y => (some (f y), some y)
  | [] => by simp [mergeE]
  | y :: l => by
    have h0 : ecmp (f y) y = 0 := (lin_p.zero _ _).2 (hf y)
    rw [List.map_cons, mergeE, if_neg (by omega), if_pos h0, merge_self hf l]
    rfl
theorem merge_nil_r : ∀ a : List Ent, mergeE a [] = a.map fun x => (some x, none)
  | [] => by simp [mergeE]
  | x :: a => by simp [mergeE]
theorem updL_nil_l (now : List Ent) : updL [] now = msL now 0 := by
  unfold updL msL
  simp only [mergeE, List.filterMap_map]
  rw [if_pos (by omega), ← List.filterMap_eq_map]
  rfl
theorem updL_nil_r (now : List Ent) (k : Nat) (h : k < 8) : updL (msL now k) [] = msL now (k + 1) := by
  unfold updL
  rw [merge_nil_r, List.filterMap_map]
  unfold msL
  rw [if_pos h, List.filterMap_map]
  split
  · rename_i h1
    refine fm_map fun e _ => ?_
    show upd (some (msE k e), none) = some (msE (k + 1) e)
    rw [upd_l, if_pos (by show (k : Int) + 1 < 8; omega)]
    rfl
  · rename_i h1
    rw [List.filterMap_eq_nil_iff]
    intro e _
    show upd (some (msE k e), none) = none
    rw [upd_l, if_neg (by show ¬ (k : Int) + 1 < 8; omega)]
theorem msL_okV {now : List Ent} (h : ∀ x ∈ now, okV x) (k : Nat) : ∀ x ∈ msL now k, okV x := by
  unfold msL
  split
  · intro x hx
    obtain ⟨y, hy, rfl⟩ := List.mem_map.1 hx
    exact okV_set (h y hy) 1 k (by omega) (by omega) (by omega) (by omega)
  · intro x hx; cases hx
theorem msL_asc {now : List Ent} (h : Asc now) (k : Nat) : Asc (msL now k) := by
  unfold msL
  split
  · unfold Asc
    rw [List.pairwise_map]
    exact h
  · exact List.Pairwise.nil
theorem msL_len (now : List Ent) (k : Nat) : (msL now k).length ≤ now.length := by
  unfold msL
  split
  · simp
  · simp
theorem lawLives_fn (z : Bool) (t : Nat) (l : List Item) (n : Nat) (hn : n < 256) (hl : l.length ≤ 9223372036854775807) (hok : ∀ x ∈ l, x.ok) : Fn TT PT 12 [SL z t (l.map Item.row), .int .u8 n] (.bool true) := by
  have hen := entries_fn z t l hl hok
  obtain ⟨a1, a2, -⟩ := preE_inv l 20
  have a3 := pre_ok l
  have v2 := pre_valid l 1 (by omega) (by omega)
  generalize preE l 20 = now at hen a1 a2 a3 v2
  have w1 : IntKind.i64.wrap (n : Int) = n := wrap64 (by omega)
  have w2 : IntKind.i64.wrap ((n : Int) + 1) = n + 1 := wrap64 (by omega)
  have vm : ∀ (k : Nat), k ≤ 8 → validB ((n : Int) + 1 + k) (msL now k) = true := fun k hk => valid_of (by omega) (by omega) (by have := msL_len now k; omega) (msL_asc a2 k) (msL_okV a3 k)
  have hup0 := updateB_fn true true 0 0 n [] now (fun _ h => by cases h) (okE_of a3)
  rw [upd_res (valid_of (by omega) (by omega) (by simp) List.Pairwise.nil fun _ h => by cases h) v2 (by omega) (by simp; omega), updL_nil_l] at hup0
  unfold baseV at hup0
  simp only at hup0
  rw [show SL true 0 (List.map Ent.row []) = .nils from rfl] at hup0
  have hlen0 : (msL now 0).length = now.length := by simp [msL]
  have hup : ∀ k : Nat, k < 8 → Fn TT PT 30 [.agg [.int .i64 ((n : Int) + 1 + k), SL true 0 ((msL now k).map Ent.row)], .nils] (.tup [.agg [.int .i64 ((n : Int) + 1 + (k + 1 : Nat)), SL true 0 ((msL now (k + 1)).map Ent.row)], .int .i64 0]) := fun k hk => by
    have := updateB_fn true true 0 0 ((n : Int) + 1 + k) (msL now k) [] (okE_of (msL_okV a3 k)) (fun _ h => by cases h)
    rw [upd_res (vm k (by omega)) (valid_of (by omega) (by omega) (by simp) List.Pairwise.nil fun _ h => by cases h) (by omega) (by have := msL_len now k; simp; omega), updL_nil_r now k hk] at this
    have e : (n : Int) + 1 + k + 1 = (n : Int) + 1 + (k + 1 : Nat) := by omega
    unfold baseV at this
    simp only at this
    rw [e] at this
    exact this
  have v0 : validB 1 [] = true := valid_of (by omega) (by omega) (by simp) List.Pairwise.nil fun _ h => by cases h
  -- comparing with the same run
  have hc0 : ∀ k : Nat, k ≤ 8 → ∃ cs : List (Int × Ent), cs.length ≤ 20 ∧ Fn TT PT 28 [.agg [.int .i64 ((n : Int) + 1 + k), SL true 0 ((msL now k).map Ent.row)], SL true 0 (now.map Ent.row)] (SL true 0 (cs.map crow)) ∧
      ∀ c ∈ cs, c.1 = (if k < 8 then (if k = 0 then 2 else 3) else 1) ∧ (k = 0 → c.2.seen = 1 ∧ c.2.missed = 0) := fun k hk => by
    have h := compareB_fn true true 0 0 ((n : Int) + 1 + k) (msL now k) now (okE_of (msL_okV a3 k)) (okE_of a3)
    unfold cmpL at h
    rw [vm k hk, v2, if_pos (show (true && true) = true from rfl)] at h
    by_cases hk8 : k < 8
    · have e : mergeE (msL now k) now = now.map fun y => (some (msE k y), some y) := by
        unfold msL
        rw [if_pos hk8]
        exact merge_self (msE_ks k) now
      rw [e] at h
      refine ⟨_, by simpa using a1, h, fun c hc => ?_⟩
      simp only [List.map_map, List.mem_map] at hc
      obtain ⟨y, _, rfl⟩ := hc
      rw [if_pos hk8]
      refine ⟨?_, fun h0 => ⟨rfl, by subst h0; rfl⟩⟩
      show (if ((k : Nat) : Int) = 0 then 2 else 3) = _
      by_cases h0 : k = 0
      · rw [if_pos h0, if_pos (by omega)]
      · rw [if_neg h0, if_neg (by omega)]
    · have e : msL now k = [] := by unfold msL; rw [if_neg hk8]
      rw [e] at h
      rw [e]
      refine ⟨_, ?_, h, fun c hc => ?_⟩
      · have := merge_len [] now
        simp at this ⊢
        omega
      · simp only [mergeE, List.map_map, List.mem_map] at hc
        obtain ⟨y, _, rfl⟩ := hc
        rw [if_neg hk8]
        exact ⟨rfl, fun h0 => by omega⟩
  -- comparing with an empty run
  have hc1 : ∀ k : Nat, k ≤ 8 → ∃ cs : List (Int × Ent), cs.length ≤ 20 ∧ Fn TT PT 28 [.agg [.int .i64 ((n : Int) + 1 + k), SL true 0 ((msL now k).map Ent.row)], .nils] (SL true 0 (cs.map crow)) ∧ ∀ c ∈ cs, c.1 = 4 ∧ c.2.missed = k := fun k hk => by
    have h := compareB_fn true true 0 0 ((n : Int) + 1 + k) (msL now k) [] (okE_of (msL_okV a3 k)) (fun _ h => by cases h)
    unfold cmpL at h
    rw [vm k hk, v0, if_pos (show (true && true) = true from rfl), merge_nil_r] at h
    have := msL_len now k
    refine ⟨_, by simp; omega, h, fun c hc => ?_⟩
    simp only [List.map_map, List.mem_map] at hc
    obtain ⟨y, hy, rfl⟩ := hc
    refine ⟨rfl, ?_⟩
    unfold msL at hy
    split at hy
    · obtain ⟨u, _, rfl⟩ := List.mem_map.1 hy
      rfl
    · cases hy
  refine Fn_go T12 rfl ?_
  simp only [go_sem, Nat.reduceEqDiff, reduceIte, Nat.reduceAdd, Nat.reduceMul, Nat.reduceLeDiff, Int.reduceLT, Int.reduceLE, Int.reduceToNat, Int.reduceAdd, Int.reduceNeg, Int.reduceEq]
  refine wx_fn hen (by simp only [go_sem]) ?_
  simp only [go_sem, Nat.reduceEqDiff, reduceIte, Nat.reduceAdd, Nat.reduceMul, Nat.reduceLeDiff, Int.reduceLT, Int.reduceLE, Int.reduceToNat, Int.reduceAdd, Int.reduceNeg, Int.reduceEq, w1]
  refine wx_fn hup0 (by simp only [go_sem]) ?_
  obtain ⟨cs, hcl, hcf, hce⟩ := hc0 0 (by omega)
  simp only [Int.natCast_zero, Int.add_zero] at hcf
  simp only [go_sem, Nat.reduceEqDiff, reduceIte, Nat.reduceAdd, Nat.reduceMul, Nat.reduceLeDiff, Int.reduceLT, Int.reduceLE, Int.reduceToNat, Int.reduceAdd, Int.reduceNeg, Int.reduceEq, w1, w2, bne_self_eq_false, List.length_map, hlen0]
  refine wx_fn hcf (by simp only [go_sem]) ?_
  simp only [go_sem, Nat.reduceEqDiff, reduceIte, Nat.reduceAdd, Nat.reduceMul, Nat.reduceLeDiff, Int.reduceLT, Int.reduceLE, Int.reduceToNat, Int.reduceAdd, Int.reduceNeg, Int.reduceEq, List.length_map]
  refine loop_w (α := Nat × St) (fun a => cs.length - a.1) (fun a => [(5, SL true 0 (now.map Ent.row)), (6, .ptr 0 0 0), (45, SL true 0 (cs.map crow)), (46, .int .i64 cs.length), (47, .int .i64 a.1)]) (fun a => .row [.int .i64 ((n : Int) + 1), SL true 0 ((msL now 0).map Ent.row)] 25 0 0 :: a.2)
    (fun a => a.1 ≤ cs.length) ?_ (0, []) (by simp)
  rintro ⟨i, s⟩ hi ih
  simp only at hi ih
  refine w_rep (by delta lp12_0; exact rfl) ?_
  rcases Nat.lt_or_ge i cs.length with h | h
  · obtain ⟨c, hx, -, hm⟩ := at_some h
    obtain ⟨e1, e2⟩ := hce c hm
    obtain ⟨e2, e3⟩ := e2 rfl
    have b1 : (c.1 != 2) = false := by rw [e1]; rfl
    have b2 : (c.2.seen != 1) = false := by rw [e2]; rfl
    have b3 : (c.2.missed != 0) = false := by rw [e3]; rfl
    simp only [go_sem, Nat.reduceEqDiff, reduceIte, Nat.reduceAdd, Nat.reduceMul, Nat.reduceLeDiff, Int.reduceLT, Int.reduceLE, Int.reduceToNat, Int.reduceAdd, Int.reduceNeg, Int.reduceEq, lt_t h, List.getElem?_map, hx, crow, b1, b2, b3, inc64 (show i < 9223372036854775807 by omega)]
    exact W_keep (ih (i + 1, _) (by simp; omega) (by simp; omega)) rfl
  clear ih
  simp only [go_sem, Nat.reduceEqDiff, reduceIte, Nat.reduceAdd, Nat.reduceMul, Nat.reduceLeDiff, Int.reduceLT, Int.reduceLE, Int.reduceToNat, Int.reduceAdd, Int.reduceNeg, Int.reduceEq, lt_f h]
  -- eight runs that do not report them
  refine loop_w (α := Nat × St) (fun a => 8 - a.1) (fun a => [(5, SL true 0 (now.map Ent.row)), (6, .ptr 0 0 0), (10, .int .i64 ((a.1 + 1 : Nat) : Int))]) (fun a => .row [.int .i64 ((n : Int) + 1 + (a.1 : Nat)), SL true 0 ((msL now a.1).map Ent.row)] 25 0 0 :: a.2)
    (fun a => a.1 ≤ 8) ?_ (0, s) (by simp)
  rintro ⟨k, s1⟩ hk ih
  simp only at hk ih
  refine w_rep (by delta lp12_3; exact rfl) ?_
  rcases Nat.lt_or_ge k 8 with h8 | h8
  · have hle : decide (((k + 1 : Nat) : Int) ≤ 8) = true := by simp; omega
    obtain ⟨ds, hdl, hdf, hde⟩ := hc1 (k + 1) (by omega)
    obtain ⟨fs, hfl, hff, hfe⟩ := hc0 (k + 1) (by omega)
    simp only [go_sem, Nat.reduceEqDiff, reduceIte, Nat.reduceAdd, Nat.reduceMul, Nat.reduceLeDiff, Int.reduceLT, Int.reduceLE, Int.reduceToNat, Int.reduceAdd, Int.reduceNeg, Int.reduceEq, hle]
    refine wx_fn (hup k h8) (by simp only [go_sem]) ?_
    simp only [go_sem, Nat.reduceEqDiff, reduceIte, Nat.reduceAdd, Nat.reduceMul, Nat.reduceLeDiff, Int.reduceLT, Int.reduceLE, Int.reduceToNat, Int.reduceAdd, Int.reduceNeg, Int.reduceEq, bne_self_eq_false]
    refine wx_fn hdf (by simp only [go_sem]) ?_
    simp only [go_sem, Nat.reduceEqDiff, reduceIte, Nat.reduceAdd, Nat.reduceMul, Nat.reduceLeDiff, Int.reduceLT, Int.reduceLE, Int.reduceToNat, Int.reduceAdd, Int.reduceNeg, Int.reduceEq, List.length_map]
    refine loop_w (α := Nat × St) (fun a => ds.length - a.1) (fun a => [(5, SL true 0 (now.map Ent.row)), (6, .ptr 0 0 0), (10, .int .i64 ((k + 1 : Nat) : Int)), (79, SL true 0 (ds.map crow)), (80, .int .i64 ds.length), (81, .int .i64 a.1)]) (fun a => .row [.int .i64 ((n : Int) + 1 + (k + 1 : Nat)), SL true 0 ((msL now (k + 1)).map Ent.row)] 25 0 0 :: a.2)
      (fun a => a.1 ≤ ds.length) ?_ (0, s1) (by simp)
    rintro ⟨i2, s2⟩ hi2 ih2
    simp only at hi2 ih2
    refine w_rep (by delta lp12_1; exact rfl) ?_
    rcases Nat.lt_or_ge i2 ds.length with h2 | h2
    · obtain ⟨c, hx, -, hm⟩ := at_some h2
      obtain ⟨e1, e2⟩ := hde c hm
      have b1 : (c.1 != 4) = false := by rw [e1]; rfl
      have b2 : (c.2.missed != ((k + 1 : Nat) : Int)) = false := by rw [e2]; exact bne_self_eq_false _
      simp only [go_sem, Nat.reduceEqDiff, reduceIte, Nat.reduceAdd, Nat.reduceMul, Nat.reduceLeDiff, Int.reduceLT, Int.reduceLE, Int.reduceToNat, Int.reduceAdd, Int.reduceNeg, Int.reduceEq, lt_t h2, List.getElem?_map, hx, crow, b1, b2, inc64 (show i2 < 9223372036854775807 by omega)]
      exact W_keep (ih2 (i2 + 1, _) (by simp; omega) (by simp; omega)) rfl
    clear ih2
    simp only [go_sem, Nat.reduceEqDiff, reduceIte, Nat.reduceAdd, Nat.reduceMul, Nat.reduceLeDiff, Int.reduceLT, Int.reduceLE, Int.reduceToNat, Int.reduceAdd, Int.reduceNeg, Int.reduceEq, lt_f h2]
    refine wx_fn hff (by simp only [go_sem]) ?_
    simp only [go_sem, Nat.reduceEqDiff, reduceIte, Nat.reduceAdd, Nat.reduceMul, Nat.reduceLeDiff, Int.reduceLT, Int.reduceLE, Int.reduceToNat, Int.reduceAdd, Int.reduceNeg, Int.reduceEq, List.length_map]
    refine loop_w (α := Nat × St) (fun a => fs.length - a.1) (fun a => [(5, SL true 0 (now.map Ent.row)), (6, .ptr 0 0 0), (10, .int .i64 ((k + 1 : Nat) : Int)), (98, SL true 0 (fs.map crow)), (99, .int .i64 fs.length), (100, .int .i64 a.1)]) (fun a => .row [.int .i64 ((n : Int) + 1 + (k + 1 : Nat)), SL true 0 ((msL now (k + 1)).map Ent.row)] 25 0 0 :: a.2)
      (fun a => a.1 ≤ fs.length) ?_ (0, s2) (by simp)
    rintro ⟨i3, s3⟩ hi3 ih3
    simp only at hi3 ih3
    refine w_rep (by delta lp12_2; exact rfl) ?_
    rcases Nat.lt_or_ge i3 fs.length with h3 | h3
    · obtain ⟨c, hx, -, hm⟩ := at_some h3
      obtain ⟨e1, -⟩ := hfe c hm
      cases hk7 : decide (((k + 1 : Nat) : Int) < 8)
      · have h7 : k + 1 = 8 := by simp at hk7; omega
        have b0 : (((k + 1 : Nat) : Int) == 8) = true := by rw [h7]; rfl
        have b1 : (c.1 != 1) = false := by rw [e1, if_neg (by omega)]; rfl
        simp only [go_sem, Nat.reduceEqDiff, reduceIte, Nat.reduceAdd, Nat.reduceMul, Nat.reduceLeDiff, Int.reduceLT, Int.reduceLE, Int.reduceToNat, Int.reduceAdd, Int.reduceNeg, Int.reduceEq, lt_t h3, List.getElem?_map, hx, crow, hk7, b0, b1, inc64 (show i3 < 9223372036854775807 by omega)]
        exact W_keep (ih3 (i3 + 1, _) (by simp; omega) (by simp; omega)) rfl
      · have h7 : k + 1 < 8 := by simp at hk7; omega
        have b0 : (((k + 1 : Nat) : Int) == 8) = false := by simp; omega
        have b1 : (c.1 != 3) = false := by rw [e1, if_pos h7, if_neg (by omega)]; rfl
        simp only [go_sem, Nat.reduceEqDiff, reduceIte, Nat.reduceAdd, Nat.reduceMul, Nat.reduceLeDiff, Int.reduceLT, Int.reduceLE, Int.reduceToNat, Int.reduceAdd, Int.reduceNeg, Int.reduceEq, lt_t h3, List.getElem?_map, hx, crow, hk7, b0, b1, inc64 (show i3 < 9223372036854775807 by omega)]
        exact W_keep (ih3 (i3 + 1, _) (by simp; omega) (by simp; omega)) rfl
    · clear ih3
      simp only [go_sem, Nat.reduceEqDiff, reduceIte, Nat.reduceAdd, Nat.reduceMul, Nat.reduceLeDiff, Int.reduceLT, Int.reduceLE, Int.reduceToNat, Int.reduceAdd, Int.reduceNeg, Int.reduceEq, lt_f h3, inc64 (show k + 1 < 9223372036854775807 by omega)]
      exact W_keep (ih (k + 1, s3) (by simp; omega) (by simp; omega)) rfl
  · obtain rfl : k = 8 := by omega
    have hle : decide (((8 + 1 : Nat) : Int) ≤ 8) = false := by decide
    have e8 : msL now 8 = [] := rfl
    rw [e8]
    simp only [go_sem, Nat.reduceEqDiff, reduceIte, Nat.reduceAdd, Nat.reduceMul, Nat.reduceLeDiff, Int.reduceLT, Int.reduceLE, Int.reduceToNat, Int.reduceAdd, Int.reduceNeg, Int.reduceEq, hle, beq_self_eq_true]
    refine wx_fn awake_fn (by simp only [go_sem]) ?_
    simp only [go_sem, Nat.reduceEqDiff, reduceIte, Nat.reduceAdd, Nat.reduceMul, Nat.reduceLeDiff, Int.reduceLT, Int.reduceLE, Int.reduceToNat, Int.reduceAdd, Int.reduceNeg, Int.reduceEq]
    exact fr_set rfl
end Go.Proofs.YticpkkjnajmpoaaGreatDoor.KM
