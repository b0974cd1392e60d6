/- Walks: the program's reader of baselines: numbers and texts. -/
import Derived.Test.YtikkmcchhddfoaaGreatDoorDc
set_option linter.all false
namespace Go.Proofs.YtikkmcchhddfoaaGreatDoor.KM
open Go
theorem rowsByte_bI : ∀ {l : List Int}, Byt l → rowsByte (bI l) = some (byt l)
  | [], _ => rfl
  | x :: l, h => by
    have h1 := h x List.mem_cons_self
    have h2 := rowsByte_bI (l := l) fun y hy => h y (List.mem_cons_of_mem _ hy)
    unfold bI at h2 ⊢
    simp only [List.map_cons, rowsByte]
    rw [if_pos h1, h2]
    rfl
theorem byt_take {l : List Int} (h : Byt l) (n : Nat) : Byt (l.take n) := fun x hx => h x (List.mem_of_mem_take hx)
theorem byt_drop {l : List Int} (h : Byt l) (n : Nat) : Byt (l.drop n) := fun x hx => h x (List.mem_of_mem_drop hx)
theorem cs_fn {T : Nat → Option AF} {pr : Nat → Option (List V → Option V)} {f : Nat} {vs : List V} {v : V} {σ : St} (h : Fn T pr f vs v) (hs : vs.all setC = true) : CallS T pr f vs σ v σ := by
  have := CallS.pure (σ := σ) (over_set hs) h
  rwa [after_nil (setL_refs hs)] at this
theorem tr_set1 {v : V} {σ : St} {b : Nat} {ob : Ob} (hv : v.rowB = true) (ho : ob.refs = []) : TR v σ v (σ.set b ob) (σ.set b ob) := by
  refine ⟨rfl, ⟨?_, ?_, fun i ob' hi h => ?_⟩, ?_⟩
  · cases v <;> simp [V.rowB] at hv <;> rfl
  · rw [rowB_refs hv]; rfl
  · by_cases hb : b = i
    · subst hb
      rw [List.getElem?_set_self hi] at h
      cases h
      exact .inr (by rw [ho]; rfl)
    · rw [List.getElem?_set_ne hb] at h
      exact .inl h
  · rw [List.take_of_length_le (by simp)]
theorem intV_some {l : List Int} {n : Int} {k : Nat} (h : intA l = some (n, k)) : intV l = .tup [.int .i64 n, .int .i64 (k : Int), .int .i64 0] := by
  unfold intA at h
  unfold intV
  cases hr : rdU 0 0 l with
  | none => rw [hr] at h; cases h
  | some p => rw [hr] at h; cases h; rfl
theorem intV_none {l : List Int} (h : intA l = none) : ∃ e, (e = 9 ∨ e = 11) ∧ intV l = .tup [.int .i64 0, .int .i64 0, .int .i64 e] := by
  unfold intA at h
  unfold intV
  cases hr : rdU 0 0 l with
  | none => exact ⟨_, rdE_none l 0 0 hr, rfl⟩
  | some p => rw [hr] at h; cases h
theorem intA_size {l : List Int} {n : Int} {k : Nat} (h : intA l = some (n, k)) : 0 < k ∧ k ≤ l.length := by
  unfold intA at h
  cases hr : rdU 0 0 l with
  | none => rw [hr] at h; cases h
  | some p =>
    rw [hr] at h
    cases h
    have := rdU_size l 0 0 p.1 p.2 hr
    omega
def rdO (z : Bool) (t : Nat) (l : List Int) : Ob := .row [SL z t (bI l)] 197 0 0
theorem rdO_refs (z : Bool) (t : Nat) (l : List Int) : (rdO z t l).refs = [] := by simp [rdO, Ob.refs, refsL, rowB_refs (sl_row z t (bI l))]
theorem num_some {σ : St} {b : Nat} {z : Bool} {t : Nat} {l : List Int} (hb : σ[b]? = some (rdO z t l)) (hl : l.length ≤ 1000000000) (hB : Byt l) {most n : Int} {r : List Int} (h : numR most l = some (n, r)) :
    0 ≤ n ∧ n ≤ most ∧ Byt r ∧ r.length ≤ l.length ∧ ∃ z' t', Th D0.T0 D0.P0 122 [.ptr b 0 0, .int .i64 most] σ (.int .i64 n) (σ.set b (rdO z' t' r)) := by
  unfold numR at h
  split at h
  · rename_i n0 k hi
    split at h
    · rename_i hn
      cases h
      obtain ⟨k0, kl⟩ := intA_size hi
      obtain ⟨z', t', hcut⟩ := sl_cut_lo z t 1 (bI l) .i64 k (by rw [bI_n]; exact kl) (bI_len l)
      have hd : (bI l).drop k = bI (l.drop k) := by unfold bI; rw [List.map_drop]
      rw [hd] at hcut
      have f1 : (n < 0) = False := eq_false (by omega)
      have f2 : (most < n) = False := eq_false (by omega)
      refine ⟨hn.1, hn.2, byt_drop hB k, by simp, z', t', Th_go D0.T122 rfl ?_⟩
      unfold rdO at hb ⊢
      simp only [go_sem, Nat.reduceEqDiff, reduceIte, Nat.reduceAdd, Nat.reduceMul, Nat.reduceLeDiff, Int.reduceLT, Int.reduceLE, Int.reduceToNat, Int.reduceAdd, Int.reduceNeg, Int.reduceEq, hb]
      refine wx_fn (eint_fn z t l hl hB) (by simp only [go_sem]) ?_
      rw [intV_some hi]
      simp only [go_sem, Nat.reduceEqDiff, reduceIte, Nat.reduceAdd, Nat.reduceMul, Nat.reduceLeDiff, Int.reduceLT, Int.reduceLE, Int.reduceToNat, Int.reduceAdd, Int.reduceNeg, Int.reduceEq, Int.reduceBNe, f1, f2, hb, hcut]
      exact tr_set1 rfl (rdO_refs z' t' (l.drop k))
    · cases h
  · cases h
theorem num_none {σ : St} {b : Nat} {z : Bool} {t : Nat} {l : List Int} (hb : σ[b]? = some (rdO z t l)) (hl : l.length ≤ 1000000000) (hB : Byt l) {most : Int} (h : numR most l = none) :
    EvX D0.T0 D0.P0 D0.pan (.fnP 122 [.ptr b 0 0, .int .i64 most] σ σ) := by
  refine fnP_go D0.T122 rfl ?_
  unfold rdO at hb
  unfold numR at h
  split at h
  · rename_i n k hi
    split at h
    · cases h
    · rename_i hn
      simp only [go_sem, Nat.reduceEqDiff, reduceIte, Nat.reduceAdd, Nat.reduceMul, Nat.reduceLeDiff, Int.reduceLT, Int.reduceLE, Int.reduceToNat, Int.reduceAdd, Int.reduceNeg, Int.reduceEq, hb]
      refine xx_call (cs_fn (eint_fn z t l hl hB) (by simp only [go_sem])) ?_
      rw [intV_some hi]
      by_cases h0 : n < 0
      · have f1 : (n < 0) = True := eq_true h0
        simp only [go_sem, Nat.reduceEqDiff, reduceIte, Nat.reduceAdd, Nat.reduceMul, Nat.reduceLeDiff, Int.reduceLT, Int.reduceLE, Int.reduceToNat, Int.reduceAdd, Int.reduceNeg, Int.reduceEq, Int.reduceBNe, f1]
        exact xx_pan (.panF rfl) ⟨_, rfl⟩
      · have f1 : (n < 0) = False := eq_false h0
        have f2 : (most < n) = True := eq_true (by omega)
        simp only [go_sem, Nat.reduceEqDiff, reduceIte, Nat.reduceAdd, Nat.reduceMul, Nat.reduceLeDiff, Int.reduceLT, Int.reduceLE, Int.reduceToNat, Int.reduceAdd, Int.reduceNeg, Int.reduceEq, Int.reduceBNe, f1, f2]
        exact xx_pan (.panF rfl) ⟨_, rfl⟩
  · rename_i hi
    obtain ⟨e, he, hv⟩ := intV_none hi
    simp only [go_sem, Nat.reduceEqDiff, reduceIte, Nat.reduceAdd, Nat.reduceMul, Nat.reduceLeDiff, Int.reduceLT, Int.reduceLE, Int.reduceToNat, Int.reduceAdd, Int.reduceNeg, Int.reduceEq, hb]
    refine xx_call (cs_fn (eint_fn z t l hl hB) (by simp only [go_sem])) ?_
    rw [hv]
    rcases he with rfl | rfl
    all_goals
      simp only [go_sem, Nat.reduceEqDiff, reduceIte, Nat.reduceAdd, Nat.reduceMul, Nat.reduceLeDiff, Int.reduceLT, Int.reduceLE, Int.reduceToNat, Int.reduceAdd, Int.reduceNeg, Int.reduceEq, Int.reduceBNe]
      exact xx_pan (.panF rfl) ⟨_, rfl⟩
theorem txt_some {σ : St} {b : Nat} {z : Bool} {t : Nat} {l : List Int} (hb : σ[b]? = some (rdO z t l)) (hl : l.length ≤ 1000000000) (hB : Byt l) {most : Int} {s : List UInt8} {r : List Int} (h : textR most l = some (s, r)) :
    Byt r ∧ r.length ≤ l.length ∧ ∃ z' t', Th D0.T0 D0.P0 123 [.ptr b 0 0, .int .i64 most] σ (.str s) (σ.set b (rdO z' t' r)) := by
  have hbl := (List.getElem?_eq_some_iff.1 hb).1
  unfold textR at h
  split at h
  · rename_i n r0 hn
    split at h
    · rename_i hle
      cases h
      obtain ⟨n0, -, hB1, l1, z1, t1, h1⟩ := num_some hb hl hB hn
      obtain ⟨m, rfl⟩ := Int.eq_ofNat_of_zero_le n0
      simp only [Int.toNat_natCast] at hle ⊢
      have hb1 : (σ.set b (rdO z1 t1 r0))[b]? = some (.row [SL z1 t1 (bI r0)] 197 0 0) := List.getElem?_set_self hbl
      obtain ⟨z2, t2, c2⟩ := sl_cut_hi z1 t1 1 (bI r0) .i64 m (by rw [bI_n]; exact hle)
      obtain ⟨z3, t3, c3⟩ := sl_cut_lo z1 t1 1 (bI r0) .i64 m (by rw [bI_n]; exact hle) (bI_len r0)
      have e2 : (bI r0).take m = bI (r0.take m) := by unfold bI; rw [List.map_take]
      have e3 : (bI r0).drop m = bI (r0.drop m) := by unfold bI; rw [List.map_drop]
      rw [e2] at c2
      rw [e3] at c3
      have f1 : ((r0.length : Int) < (m : Int)) = False := eq_false (by omega)
      have rb := rowsByte_bI (byt_take hB1 m)
      refine ⟨byt_drop hB1 m, by simp; omega, z3, t3, Th_go D0.T123 rfl ?_⟩
      simp only [go_sem, Nat.reduceEqDiff, reduceIte, Nat.reduceAdd, Nat.reduceMul, Nat.reduceLeDiff, Int.reduceLT, Int.reduceLE, Int.reduceToNat, Int.reduceAdd, Int.reduceNeg, Int.reduceEq]
      refine wx_th h1 ?_
      simp only [go_sem, Nat.reduceEqDiff, reduceIte, Nat.reduceAdd, Nat.reduceMul, Nat.reduceLeDiff, Int.reduceLT, Int.reduceLE, Int.reduceToNat, Int.reduceAdd, Int.reduceNeg, Int.reduceEq, hb1, bI_n, f1, c2, rb, c3]
      rw [List.set_set]
      exact tr_set1 rfl (rdO_refs z3 t3 (r0.drop m))
    · cases h
  · cases h
theorem txt_none {σ : St} {b : Nat} {z : Bool} {t : Nat} {l : List Int} (hb : σ[b]? = some (rdO z t l)) (hl : l.length ≤ 1000000000) (hB : Byt l) {most : Int} (h : textR most l = none) :
    ∃ σ1, EvX D0.T0 D0.P0 D0.pan (.fnP 123 [.ptr b 0 0, .int .i64 most] σ σ1) ∧ ∀ j, j ≠ b → σ1[j]? = σ[j]? := by
  have hbl := (List.getElem?_eq_some_iff.1 hb).1
  unfold textR at h
  split at h
  · rename_i n r0 hn
    split at h
    · cases h
    · rename_i hle
      obtain ⟨n0, -, hB1, l1, z1, t1, h1⟩ := num_some hb hl hB hn
      obtain ⟨m, rfl⟩ := Int.eq_ofNat_of_zero_le n0
      simp only [Int.toNat_natCast] at hle
      have hb1 : (σ.set b (rdO z1 t1 r0))[b]? = some (.row [SL z1 t1 (bI r0)] 197 0 0) := List.getElem?_set_self hbl
      have f1 : ((r0.length : Int) < (m : Int)) = True := eq_true (by omega)
      refine ⟨σ.set b (rdO z1 t1 r0), fnP_go D0.T123 rfl ?_, fun j hj => List.getElem?_set_ne (Ne.symm hj)⟩
      simp only [go_sem, Nat.reduceEqDiff, reduceIte, Nat.reduceAdd, Nat.reduceMul, Nat.reduceLeDiff, Int.reduceLT, Int.reduceLE, Int.reduceToNat, Int.reduceAdd, Int.reduceNeg, Int.reduceEq]
      refine xx_call (.thr h1) ?_
      simp only [go_sem, Nat.reduceEqDiff, reduceIte, Nat.reduceAdd, Nat.reduceMul, Nat.reduceLeDiff, Int.reduceLT, Int.reduceLE, Int.reduceToNat, Int.reduceAdd, Int.reduceNeg, Int.reduceEq, hb1, bI_n, f1]
      exact xx_pan (.panF rfl) ⟨_, rfl⟩
  · rename_i hn
    refine ⟨σ, fnP_go D0.T123 rfl ?_, fun j _ => rfl⟩
    simp only [go_sem, Nat.reduceEqDiff, reduceIte, Nat.reduceAdd, Nat.reduceMul, Nat.reduceLeDiff, Int.reduceLT, Int.reduceLE, Int.reduceToNat, Int.reduceAdd, Int.reduceNeg, Int.reduceEq]
    exact xx_pan (num_none hb hl hB hn) ⟨_, rfl⟩
end Go.Proofs.YtikkmcchhddfoaaGreatDoor.KM
