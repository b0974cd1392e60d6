/- Walks: the reference's reader of baselines. -/
import Derived.Test.YtikkmcchhddfoaaGreatDoorDi
import Derived.Test.YtikkmcchhddfoaaGreatDoorDj
set_option linter.all false
namespace Go.Proofs.YtikkmcchhddfoaaGreatDoor.KM
open Go
def rO (z : Bool) (t : Nat) (s : RS) : Ob := .row [SL z t (bI s.1), .bool s.2] 137 0 0
theorem rO_refs (z : Bool) (t : Nat) (s : RS) : (rO z t s).refs = [] := by simp [rO, Ob.refs, refsL, rowB_refs (sl_row z t (bI s.1)), V.refs]
/-- a state in which the reader alone has turned -/
def RU (σ τ : St) (b : Nat) (s : RS) : Prop := (∃ z t, τ[b]? = some (rO z t s)) ∧ τ.length = σ.length ∧ ∀ j, j ≠ b → τ[j]? = σ[j]?
theorem tr_ru {v : V} {σ τ : St} {b : Nat} {s : RS} (hv : v.rowB = true) (h : RU σ τ b s) : TR v σ v τ τ := by
  obtain ⟨⟨z, t, h1⟩, h2, h3⟩ := h
  refine ⟨rfl, ⟨?_, ?_, fun i ob' hi h => ?_⟩, ?_⟩
  · cases v <;> simp [V.rowB] at hv <;> rfl
  · rw [rowB_refs hv]; rfl
  · by_cases hb : i = b
    · subst hb
      rw [h1] at h
      cases h
      exact .inr (by rw [rO_refs]; rfl)
    · rw [h3 i hb] at h
      exact .inl h
  · rw [List.take_of_length_le (by omega)]
theorem ru_set {σ : St} {b : Nat} {s : RS} (z : Bool) (t : Nat) (h : b < σ.length) : RU σ (σ.set b (rO z t s)) b s := ⟨⟨z, t, List.getElem?_set_self h⟩, by simp, fun j hj => List.getElem?_set_ne (Ne.symm hj)⟩
theorem ru_trans {σ τ υ : St} {b : Nat} {s s' : RS} (h : RU σ τ b s) (h' : RU τ υ b s') : RU σ υ b s' := ⟨h'.1, h'.2.1.trans h.2.1, fun j hj => (h'.2.2 j hj).trans (h.2.2 j hj)⟩
theorem numS_in {most : Int} {s : RS} (hB : Byt s.1) : Byt (numS most s).2.1 ∧ (numS most s).2.1.length ≤ s.1.length := by
  unfold numS
  split
  · exact ⟨hB, Nat.le_refl _⟩
  · split
    · split
      · exact ⟨byt_drop hB _, by simp⟩
      · exact ⟨hB, Nat.le_refl _⟩
    · exact ⟨hB, Nat.le_refl _⟩
theorem numS_le {most : Int} (hm : 0 ≤ most) (s : RS) : 0 ≤ (numS most s).1 ∧ (numS most s).1 ≤ most := by
  unfold numS
  split
  · exact ⟨Int.le_refl _, hm⟩
  · split
    · split
      · rename_i h; exact h
      · exact ⟨Int.le_refl _, hm⟩
    · exact ⟨Int.le_refl _, hm⟩
theorem textS_in {s : RS} (hB : Byt s.1) : Byt (textS s).2.1 ∧ (textS s).2.1.length ≤ s.1.length := by
  obtain ⟨h1, h2⟩ := numS_in (most := (s.1.length : Int)) hB
  unfold textS
  split
  · exact ⟨h1, h2⟩
  · exact ⟨byt_drop h1 _, by simp; omega⟩
theorem rnum_th {σ : St} {b : Nat} {z : Bool} {t : Nat} {s : RS} (hb : σ[b]? = some (rO z t s)) (hl : s.1.length ≤ 1000000000) (hB : Byt s.1) (most : Int) :
    ∃ τ, Th TT PT 71 [.ptr b 0 0, .int .i64 most] σ (.int .i64 (numS most s).1) τ ∧ RU σ τ b (numS most s).2 := by
  have hbl := (List.getElem?_eq_some_iff.1 hb).1
  obtain ⟨l, bad⟩ := s
  simp only at hl hB
  cases bad
  · have hb' : σ[b]? = some (.row [SL z t (bI l), .bool false] 137 0 0) := hb
    have hi := rint_fn z t l hl hB
    cases hA : intA l with
    | none =>
      have hn : numS most (l, false) = (0, (l, true)) := by unfold numS; rw [if_neg (by simp)]; simp only [hA]
      rw [hn]
      obtain ⟨e, he, hv⟩ := intV_none hA
      rw [hv] at hi
      refine ⟨_, ?_, ru_set z t hbl⟩
      refine Th_go T71 rfl ?_
      simp only [go_sem, Nat.reduceEqDiff, reduceIte, Nat.reduceAdd, Nat.reduceMul, Nat.reduceLeDiff, hb']
      refine wx_fn hi (by simp only [go_sem]) ?_
      rcases he with rfl | rfl
      all_goals
        simp only [go_sem, Nat.reduceEqDiff, reduceIte, Nat.reduceAdd, Nat.reduceMul, Nat.reduceLeDiff, Int.reduceBNe, hb']
        exact tr_ru (s := (l, true)) rfl (ru_set z t hbl)
    | some p =>
      obtain ⟨n, k⟩ := p
      rw [intV_some hA] at hi
      obtain ⟨k0, kl⟩ := intA_size hA
      by_cases hr : 0 ≤ n ∧ n ≤ most
      · have hn : numS most (l, false) = (n, (l.drop k, false)) := by unfold numS; rw [if_neg (by simp)]; simp only [hA]; rw [if_pos hr]
        rw [hn]
        obtain ⟨z', t', hcut⟩ := sl_cut_lo z t 1 (bI l) .i64 k (by rw [bI_n]; exact kl) (bI_len l)
        have hd : (bI l).drop k = bI (l.drop k) := by unfold bI; rw [List.map_drop]
        rw [hd] at hcut
        have f1 : (n < 0) = False := eq_false (by omega)
        have f2 : (most < n) = False := eq_false (by omega)
        refine ⟨_, ?_, ru_set z' t' hbl⟩
        refine Th_go T71 rfl ?_
        simp only [go_sem, Nat.reduceEqDiff, reduceIte, Nat.reduceAdd, Nat.reduceMul, Nat.reduceLeDiff, hb']
        refine wx_fn hi (by simp only [go_sem]) ?_
        simp only [go_sem, Nat.reduceEqDiff, reduceIte, Nat.reduceAdd, Nat.reduceMul, Nat.reduceLeDiff, Int.reduceBNe, f1, f2, hb', hcut]
        exact tr_ru (s := (l.drop k, false)) rfl (ru_set z' t' hbl)
      · have hn : numS most (l, false) = (0, (l, true)) := by unfold numS; rw [if_neg (by simp)]; simp only [hA]; rw [if_neg hr]
        rw [hn]
        refine ⟨_, ?_, ru_set z t hbl⟩
        refine Th_go T71 rfl ?_
        simp only [go_sem, Nat.reduceEqDiff, reduceIte, Nat.reduceAdd, Nat.reduceMul, Nat.reduceLeDiff, hb']
        refine wx_fn hi (by simp only [go_sem]) ?_
        by_cases h0 : n < 0
        · have f1 : (n < 0) = True := eq_true h0
          simp only [go_sem, Nat.reduceEqDiff, reduceIte, Nat.reduceAdd, Nat.reduceMul, Nat.reduceLeDiff, Int.reduceBNe, f1, hb']
          exact tr_ru (s := (l, true)) rfl (ru_set z t hbl)
        · have f1 : (n < 0) = False := eq_false h0
          have f2 : (most < n) = True := eq_true (by omega)
          simp only [go_sem, Nat.reduceEqDiff, reduceIte, Nat.reduceAdd, Nat.reduceMul, Nat.reduceLeDiff, Int.reduceBNe, f1, f2, hb']
          exact tr_ru (s := (l, true)) rfl (ru_set z t hbl)
  · have hb' : σ[b]? = some (.row [SL z t (bI l), .bool true] 137 0 0) := hb
    have hn : numS most (l, true) = (0, (l, true)) := by unfold numS; rw [if_pos rfl]
    rw [hn]
    refine ⟨σ, ?_, ⟨z, t, hb⟩, rfl, fun _ _ => rfl⟩
    refine Th_go T71 rfl ?_
    simp only [go_sem, Nat.reduceEqDiff, reduceIte, Nat.reduceAdd, Nat.reduceMul, Nat.reduceLeDiff, hb']
    exact tr_flat0 rfl
theorem rtxt_th {σ : St} {b : Nat} {z : Bool} {t : Nat} {s : RS} (hb : σ[b]? = some (rO z t s)) (hl : s.1.length ≤ 1000000000) (hB : Byt s.1) :
    ∃ τ, Th TT PT 72 [.ptr b 0 0] σ (.str (textS s).1) τ ∧ RU σ τ b (textS s).2 := by
  have hbl := (List.getElem?_eq_some_iff.1 hb).1
  have hb' : σ[b]? = some (.row [SL z t (bI s.1), .bool s.2] 137 0 0) := hb
  obtain ⟨τ, h1, hu⟩ := rnum_th hb hl hB (s.1.length : Int)
  obtain ⟨hB1, hl1⟩ := numS_in (most := (s.1.length : Int)) hB
  obtain ⟨n0, nle⟩ := numS_le (most := (s.1.length : Int)) (by omega) s
  unfold textS
  generalize numS (s.1.length : Int) s = q at h1 hu hB1 hl1 n0 nle
  obtain ⟨n, r, bad⟩ := q
  simp only at h1 hu hB1 hl1 n0 nle ⊢
  obtain ⟨⟨z1, t1, g1⟩, e1, f1⟩ := hu
  have htl : b < τ.length := by omega
  have g1' : τ[b]? = some (.row [SL z1 t1 (bI r), .bool bad] 137 0 0) := g1
  obtain ⟨m, rfl⟩ := Int.eq_ofNat_of_zero_le n0
  simp only [Int.toNat_natCast]
  have hu : RU σ τ b (r, bad) := ⟨⟨z1, t1, g1⟩, e1, f1⟩
  cases bad
  · by_cases hle : (r.length : Int) < (m : Int)
    · rw [if_pos (.inr hle)]
      have f2 : ((r.length : Int) < (m : Int)) = True := eq_true hle
      have hu2 := ru_trans hu (ru_set (s := (r, true)) z1 t1 htl)
      refine ⟨_, ?_, hu2⟩
      refine Th_go T72 rfl ?_
      simp only [go_sem, Nat.reduceEqDiff, reduceIte, Nat.reduceAdd, Nat.reduceMul, Nat.reduceLeDiff, hb', bI_n]
      refine wx_th h1 ?_
      simp only [go_sem, Nat.reduceEqDiff, reduceIte, Nat.reduceAdd, Nat.reduceMul, Nat.reduceLeDiff, g1', bI_n, f2]
      exact tr_ru rfl hu2
    · rw [if_neg (by simp; omega)]
      have f2 : ((r.length : Int) < (m : Int)) = False := eq_false hle
      obtain ⟨z2, t2, c2⟩ := sl_cut_hi z1 t1 1 (bI r) .i64 m (by rw [bI_n]; omega)
      obtain ⟨z3, t3, c3⟩ := sl_cut_lo z1 t1 1 (bI r) .i64 m (by rw [bI_n]; omega) (bI_len r)
      have e2 : (bI r).take m = bI (r.take m) := by unfold bI; rw [List.map_take]
      have e3 : (bI r).drop m = bI (r.drop m) := by unfold bI; rw [List.map_drop]
      rw [e2] at c2
      rw [e3] at c3
      have rb := rowsByte_bI (byt_take hB1 m)
      have hu2 := ru_trans hu (ru_set (s := (r.drop m, false)) z3 t3 htl)
      refine ⟨_, ?_, hu2⟩
      refine Th_go T72 rfl ?_
      simp only [go_sem, Nat.reduceEqDiff, reduceIte, Nat.reduceAdd, Nat.reduceMul, Nat.reduceLeDiff, hb', bI_n]
      refine wx_th h1 ?_
      simp only [go_sem, Nat.reduceEqDiff, reduceIte, Nat.reduceAdd, Nat.reduceMul, Nat.reduceLeDiff, g1', bI_n, f2, c2, rb, c3]
      exact tr_ru rfl hu2
  · rw [if_pos (.inl rfl)]
    have hu2 := ru_trans hu (ru_set (s := (r, true)) z1 t1 htl)
    refine ⟨_, ?_, hu2⟩
    refine Th_go T72 rfl ?_
    simp only [go_sem, Nat.reduceEqDiff, reduceIte, Nat.reduceAdd, Nat.reduceMul, Nat.reduceLeDiff, hb', bI_n]
    refine wx_th h1 ?_
    simp only [go_sem, Nat.reduceEqDiff, reduceIte, Nat.reduceAdd, Nat.reduceMul, Nat.reduceLeDiff, g1', bI_n]
    exact tr_ru rfl hu2
end Go.Proofs.YtikkmcchhddfoaaGreatDoor.KM
