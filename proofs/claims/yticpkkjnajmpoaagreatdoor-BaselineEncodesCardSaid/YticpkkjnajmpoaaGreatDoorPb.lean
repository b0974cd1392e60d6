/- The law BaselineLess, walked. -/
import Derived.Test.YticpkkjnajmpoaaGreatDoorPa
import Derived.Test.YticpkkjnajmpoaaGreatDoorA5
import Derived.Test.YticpkkjnajmpoaaGreatDoorNw
set_option linter.all false
namespace Go.Proofs.YticpkkjnajmpoaaGreatDoor.KM
open Go
theorem krows_len (l : List Key) : ∀ r ∈ l.map krow, r.length = 3 := by
  intro r hr
  obtain ⟨k, _, rfl⟩ := List.mem_map.1 hr
  rfl
theorem krows_row (l : List Key) : ∀ r ∈ l.map krow, r.all V.rowB = true := by
  intro r hr
  obtain ⟨k, _, rfl⟩ := List.mem_map.1 hr
  rfl
theorem ent_set (x : Ent) : setC (.agg x.row) = true := by
  have := sl_row x.z x.t (x.sites.map krow)
  simp only [go_sem, Ent.row, Ent.sl]
theorem lawLess_fn (x y : Ent) (n : Int) (hx : x.sites.length ≤ 9223372036854775807) (hy : y.sites.length ≤ 9223372036854775807) : Fn TT PT 4 [.agg x.row, .agg y.row, .int .u8 n] (.bool true) := by
  refine Fn_go T4 rfl ?_
  unfold Ent.row Ent.sl
  simp only [go_sem, Nat.reduceEqDiff, reduceIte, Nat.reduceAdd, Nat.reduceMul, Nat.reduceLeDiff, Int.reduceLT, Int.reduceLE, Int.reduceToNat, Int.reduceAdd, Int.reduceNeg, Int.reduceEq, List.length_map]
  first | refine wd_if (fun h1 => ?_) (fun h1 => ?_) | refine wgd_if (fun h1 => ?_) (fun h1 => ?_)
  · simp only [go_sem, Nat.reduceEqDiff, reduceIte, Nat.reduceAdd, Nat.reduceMul, Nat.reduceLeDiff, Int.reduceLT, Int.reduceLE, Int.reduceToNat, Int.reduceAdd, Int.reduceNeg, Int.reduceEq, h1]
    refine wc_if (fun h2 => ?_) (fun h2 => ?_)
    · simp only [go_sem, Nat.reduceEqDiff, reduceIte, Nat.reduceAdd, Nat.reduceMul, Nat.reduceLeDiff, Int.reduceLT, Int.reduceLE, Int.reduceToNat, Int.reduceAdd, Int.reduceNeg, Int.reduceEq]
      first | refine wx_fn (awake_fn) (by first | rfl | simp only [go_sem]) ?_ | refine wgx_fn (awake_fn) (by first | rfl | simp only [go_sem]) ?_
      simp only [go_sem, Nat.reduceEqDiff, reduceIte, Nat.reduceAdd, Nat.reduceMul, Nat.reduceLeDiff, Int.reduceLT, Int.reduceLE, Int.reduceToNat, Int.reduceAdd, Int.reduceNeg, Int.reduceEq]
      exact fr_set rfl
    · simp only [go_sem, Nat.reduceEqDiff, reduceIte, Nat.reduceAdd, Nat.reduceMul, Nat.reduceLeDiff, Int.reduceLT, Int.reduceLE, Int.reduceToNat, Int.reduceAdd, Int.reduceNeg, Int.reduceEq]
      refine wc_join (by rfl) (fun e s => ∃ K, e = [(2, V.int IntKind.u8 n), (3, V.ptr 0 0 0), (4, V.ptr 1 0 0)] ∧ s = [.row x.row 32 0 0, .row [.int .i64 K, y.sl, .int .i64 y.seen, .int .i64 y.missed] 32 0 0]) (fun h3 => ?_) (fun h3 => ?_) ?_
      · simp only [go_sem, Nat.reduceEqDiff, reduceIte, Nat.reduceAdd, Nat.reduceMul, Nat.reduceLeDiff, Int.reduceLT, Int.reduceLE, Int.reduceToNat, Int.reduceAdd, Int.reduceNeg, Int.reduceEq]
        exact ⟨_, rfl, rfl⟩
      · simp only [go_sem, Nat.reduceEqDiff, reduceIte, Nat.reduceAdd, Nat.reduceMul, Nat.reduceLeDiff, Int.reduceLT, Int.reduceLE, Int.reduceToNat, Int.reduceAdd, Int.reduceNeg, Int.reduceEq]
        exact ⟨_, rfl, rfl⟩
      rintro _ _ ⟨K, rfl, rfl⟩
      unfold Ent.row
      have cx : x.sl.cellB = true := sl_cell ..
      have cy : y.sl.cellB = true := sl_cell ..
      simp only [go_sem, Nat.reduceEqDiff, reduceIte, Nat.reduceAdd, Nat.reduceMul, Nat.reduceLeDiff, Int.reduceLT, Int.reduceLE, Int.reduceToNat, Int.reduceAdd, Int.reduceNeg, Int.reduceEq]
      refine wc_join (by rfl) (fun e s => ∃ (u : V) (y' : Ent) (J : St), OC s u y'.sl ∧ y'.sites.length < 41 ∧ e = [(3, V.ptr 0 0 0), (4, V.ptr 1 0 0)] ∧ s = [.row x.row 32 0 0, .row [.int .i64 y'.kind, u, .int .i64 y'.seen, .int .i64 y'.missed] 32 0 0] ++ J) (fun h3 => ?_) (fun h3 => ?_) ?_
      · simp only [go_sem, Nat.reduceEqDiff, reduceIte, Nat.reduceAdd, Nat.reduceMul, Nat.reduceLeDiff, Int.reduceLT, Int.reduceLE, Int.reduceToNat, Int.reduceAdd, Int.reduceNeg, Int.reduceEq]
        have hxs : x.sites.length ≤ 20 := by simp at h1; omega
        have hys : y.sites.length ≤ 20 := by simp at h2; omega
        refine w_drw (by kernel_rfl) ?_
        simp only [go_sem, Nat.reduceEqDiff, reduceIte, Nat.reduceAdd, Nat.reduceMul, Nat.reduceLeDiff, Int.reduceLT, Int.reduceLE, Int.reduceToNat, Int.reduceAdd, Int.reduceNeg, Int.reduceEq]
        obtain ⟨u1, s1, e1, g1, l1, -, f1⟩ := gv_app (lo := 2) (σ := [.row [.int .i64 x.kind, x.sl, .int .i64 x.seen, .int .i64 x.missed] 32 0 0, .row [.int .i64 K, y.sl, .int .i64 y.seen, .int .i64 y.missed] 32 0 0]) (m := 3) (e := 41) (bytes := 40) (y := x.sl) (ys := x.sites.map krow) gv_nil (by simp) (sl_rows ..) (by omega) (by simp) (krows_len _) (by simp; omega)
        have q0 := f1 0 (by simp)
        have q1 := f1 1 (by simp)
        simp only [go_sem, Nat.reduceEqDiff, reduceIte, Nat.reduceAdd, Nat.reduceMul, Nat.reduceLeDiff, Int.reduceLT, Int.reduceLE, Int.reduceToNat, Int.reduceAdd, Int.reduceNeg, Int.reduceEq, e1]
        refine wgk_ef' (by repeat (first | exact trivial | refine ⟨.inl (by rfl), ?_⟩ | refine ⟨by rfl, ?_⟩ | refine ⟨.inr ⟨by rfl, by rfl⟩, ?_⟩)) (by repeat (first | exact trivial | refine ⟨.inl (by rfl), ?_⟩ | refine ⟨by rfl, ?_⟩ | refine ⟨.inr ⟨by rfl, by rfl⟩, ?_⟩)) ?_
        simp only [go_sem, Nat.reduceEqDiff, reduceIte, Nat.reduceAdd, Nat.reduceMul, Nat.reduceLeDiff, Int.reduceLT, Int.reduceLE, Int.reduceToNat, Int.reduceAdd, Int.reduceNeg, Int.reduceEq, q1]
        refine wgk_rd' ⟨.inr ⟨rfl, load_of rfl q1 (by simp) rfl⟩, trivial⟩ ?_
        rw [List.nil_append] at g1
        obtain ⟨u2, s2, e2, g2, l2, -, f2⟩ := gv_app (m := 3) (e := 41) (bytes := 40) (y := y.sl) (ys := y.sites.map krow) g1 l1 (sl_rows ..) (by omega) (krows_len _) (krows_len _) (by simp; omega)
        have p0 := (f2 0 (by simp)).trans q0
        have p1 := (f2 1 (by simp)).trans q1
        simp only [go_sem, Nat.reduceEqDiff, reduceIte, Nat.reduceAdd, Nat.reduceMul, Nat.reduceLeDiff, Int.reduceLT, Int.reduceLE, Int.reduceToNat, Int.reduceAdd, Int.reduceNeg, Int.reduceEq, e2]
        refine wgk_ef' (by repeat (first | exact trivial | refine ⟨.inl (by rfl), ?_⟩ | refine ⟨by rfl, ?_⟩ | refine ⟨.inr ⟨by rfl, by rfl⟩, ?_⟩)) (by repeat (first | exact trivial | refine ⟨.inl (by rfl), ?_⟩ | refine ⟨by rfl, ?_⟩ | refine ⟨.inr ⟨by rfl, by rfl⟩, ?_⟩)) ?_
        simp only [go_sem, Nat.reduceEqDiff, reduceIte, Nat.reduceAdd, Nat.reduceMul, Nat.reduceLeDiff, Int.reduceLT, Int.reduceLE, Int.reduceToNat, Int.reduceAdd, Int.reduceNeg, Int.reduceEq, p1, cells1 (gv_cell g2), gv_cell g2]
        refine wgk_ef' (by repeat (first | exact trivial | refine ⟨.inl (by rfl), ?_⟩ | refine ⟨by rfl, ?_⟩ | refine ⟨.inr ⟨by rfl, by rfl⟩, ?_⟩)) (by repeat (first | exact trivial | refine ⟨.inl (by rfl), ?_⟩ | refine ⟨by rfl, ?_⟩ | refine ⟨.inr ⟨by rfl, by rfl⟩, ?_⟩)) ?_
        simp only [go_sem, Nat.reduceEqDiff, reduceIte, Nat.reduceAdd, Nat.reduceMul, Nat.reduceLeDiff, Int.reduceLT, Int.reduceLE, Int.reduceToNat, Int.reduceAdd, Int.reduceNeg, Int.reduceEq]
        have hlen : 2 ≤ s2.length := Nat.le_trans l1 l2
        obtain ⟨z, t, hoc⟩ := gv_oc (gv_set (x := .row [.int .i64 K, u2, .int .i64 y.seen, .int .i64 y.missed] 32 0 0) g2 (show 1 < 2 by omega)) (by omega) (by rw [← List.map_append]; exact krows_len _) (by rw [← List.map_append]; exact krows_row _)
        rw [← List.map_append] at hoc
        match s2, p0, p1, hlen with
        | a :: b :: J, p0, p1, _ =>
          cases p0
          exact ⟨u2, ⟨K, x.sites ++ y.sites, y.seen, y.missed, z, t⟩, J, hoc, by simp; omega, rfl, rfl⟩
      · simp only [go_sem, Nat.reduceEqDiff, reduceIte, Nat.reduceAdd, Nat.reduceMul, Nat.reduceLeDiff, Int.reduceLT, Int.reduceLE, Int.reduceToNat, Int.reduceAdd, Int.reduceNeg, Int.reduceEq]
        exact ⟨_, ⟨K, y.sites, y.seen, y.missed, y.z, y.t⟩, [], oc_row (sl_row ..), by simp at h2; simp; omega, rfl, rfl⟩
      rintro _ _ ⟨u, y', J, hu, hl, rfl, rfl⟩
      have hxs : x.sites.length < 21 := by simp at h1; omega
      have ov : ∀ s, OC s u y'.sl → OVs s [.agg x.row, .agg [.int .i64 y'.kind, u, .int .i64 y'.seen, .int .i64 y'.missed]] [.agg x.row, .agg y'.row] := fun s h => .cons (ov_set (ent_set x)) (.cons (ov_agg (.cons (oc_row rfl) (.cons h (.cons (oc_row rfl) (.cons (oc_row rfl) .nil))))) .nil)
      have ov2 : ∀ s, OC s u y'.sl → OVs s [.agg [.int .i64 y'.kind, u, .int .i64 y'.seen, .int .i64 y'.missed], .agg x.row] [.agg y'.row, .agg x.row] := fun s h => .cons (ov_agg (.cons (oc_row rfl) (.cons h (.cons (oc_row rfl) (.cons (oc_row rfl) .nil))))) (.cons (ov_set (ent_set x)) .nil)
      have hex : x.row = [.int .i64 x.kind, x.sl, .int .i64 x.seen, .int .i64 x.missed] := rfl
      simp only [go_sem, Nat.reduceEqDiff, reduceIte, Nat.reduceAdd, Nat.reduceMul, Nat.reduceLeDiff, Int.reduceLT, Int.reduceLE, Int.reduceToNat, Int.reduceAdd, Int.reduceNeg, Int.reduceEq, hex]
      refine w_drw (by kernel_rfl) ?_
      simp only [go_sem, Nat.reduceEqDiff, reduceIte, Nat.reduceAdd, Nat.reduceMul, Nat.reduceLeDiff, Int.reduceLT, Int.reduceLE, Int.reduceToNat, Int.reduceAdd, Int.reduceNeg, Int.reduceEq, hex]
      refine wgx_fo (ov _ hu) (less_fn x y' (by omega) (by omega)) rfl ?_
      simp only [go_sem, Nat.reduceEqDiff, reduceIte, Nat.reduceAdd, Nat.reduceMul, Nat.reduceLeDiff, Int.reduceLT, Int.reduceLE, Int.reduceToNat, Int.reduceAdd, Int.reduceNeg, Int.reduceEq]
      refine wgx_fo (ov _ hu) (cent_fn x y' (by omega) (by omega)) rfl ?_
      simp only [go_sem, Nat.reduceEqDiff, reduceIte, Nat.reduceAdd, Nat.reduceMul, Nat.reduceLeDiff, Int.reduceLT, Int.reduceLE, Int.reduceToNat, Int.reduceAdd, Int.reduceNeg, Int.reduceEq, beq_self_eq_true]
      refine wgx_fo (ov2 _ hu) (less_fn y' x (by omega) (by omega)) rfl ?_
      simp only [go_sem, Nat.reduceEqDiff, reduceIte, Nat.reduceAdd, Nat.reduceMul, Nat.reduceLeDiff, Int.reduceLT, Int.reduceLE, Int.reduceToNat, Int.reduceAdd, Int.reduceNeg, Int.reduceEq]
      refine wgx_fo (ov2 _ hu) (cent_fn y' x (by omega) (by omega)) rfl ?_
      simp only [go_sem, Nat.reduceEqDiff, reduceIte, Nat.reduceAdd, Nat.reduceMul, Nat.reduceLeDiff, Int.reduceLT, Int.reduceLE, Int.reduceToNat, Int.reduceAdd, Int.reduceNeg, Int.reduceEq, beq_self_eq_true]
      first | refine wx_fn (awake_fn) (by first | rfl | simp only [go_sem]) ?_ | refine wgx_fn (awake_fn) (by first | rfl | simp only [go_sem]) ?_
      simp only [go_sem, Nat.reduceEqDiff, reduceIte, Nat.reduceAdd, Nat.reduceMul, Nat.reduceLeDiff, Int.reduceLT, Int.reduceLE, Int.reduceToNat, Int.reduceAdd, Int.reduceNeg, Int.reduceEq]
      exact fr_set rfl
  · simp only [go_sem, Nat.reduceEqDiff, reduceIte, Nat.reduceAdd, Nat.reduceMul, Nat.reduceLeDiff, Int.reduceLT, Int.reduceLE, Int.reduceToNat, Int.reduceAdd, Int.reduceNeg, Int.reduceEq, h1]
    first | refine wx_fn (awake_fn) (by first | rfl | simp only [go_sem]) ?_ | refine wgx_fn (awake_fn) (by first | rfl | simp only [go_sem]) ?_
    simp only [go_sem, Nat.reduceEqDiff, reduceIte, Nat.reduceAdd, Nat.reduceMul, Nat.reduceLeDiff, Int.reduceLT, Int.reduceLE, Int.reduceToNat, Int.reduceAdd, Int.reduceNeg, Int.reduceEq]
    exact fr_set rfl
end Go.Proofs.YticpkkjnajmpoaaGreatDoor.KM
