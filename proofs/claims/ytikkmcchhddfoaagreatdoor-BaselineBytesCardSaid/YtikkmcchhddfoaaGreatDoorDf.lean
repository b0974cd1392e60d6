/- Walks: the program's decodeBody, without its deferred call: whole. -/
import Derived.Test.YtikkmcchhddfoaaGreatDoorDe
set_option linter.all false
namespace Go.Proofs.YtikkmcchhddfoaaGreatDoor.KM
open Go
theorem joinK_nil (o : Option (List Key × List Int)) : joinK [] o = o := by cases o <;> rfl
/-- the entries of a baseline, and the end -/
theorem ents_x {l : List Int} {n : Int} {c : Nat} (hc : c ≤ 64) {K : List It}
    (hok : ∀ es s u, decA l = some (n, es) → s[0]? = some (bO n u) → s[1]? = some (okO false) → GW s 4 139 3 u (es.map Ent.row) → XW D0.T0 D0.P0 D0.pan K [(2, .ptr 0 0 0), (3, .ptr 1 0 0), (4, .ptr 2 0 0), (18, .int .i64 (c : Int)), (19, .int .i64 (c : Int))] s (DQ l))
    (r : List Int) (s : St) (z : Bool) (t : Nat) (hR : joinE n [] (entsR c r) = decA l) (hB : Byt r) (hl : r.length ≤ 1000000000) (hs2 : s[2]? = some (rdO z t r)) (hs0 : s[0]? = some (bO n .nils)) (hs1 : s[1]? = some (okO false)) :
    XW D0.T0 D0.P0 D0.pan (.l [2, 3, 4, 18, 19] D0.lp69_1 :: .b 0 :: K) [(2, .ptr 0 0 0), (3, .ptr 1 0 0), (4, .ptr 2 0 0), (18, .int .i64 (c : Int)), (19, .int .i64 0)] s (DQ l) := by
  refine loop_x (α := List Ent × List Int × St × V × Bool × Nat) (fun a => c - a.1.length) (fun x => [(2, .ptr 0 0 0), (3, .ptr 1 0 0), (4, .ptr 2 0 0), (18, .int .i64 (c : Int)), (19, .int .i64 (x.1.length : Int))]) (fun x => x.2.2.1)
    (fun x => x.1.length ≤ c ∧ joinE n x.1 (entsR (c - x.1.length) x.2.1) = decA l ∧ Byt x.2.1 ∧ x.2.1.length ≤ 1000000000 ∧ x.2.2.1[2]? = some (rdO x.2.2.2.2.1 x.2.2.2.2.2 x.2.1) ∧ x.2.2.1[0]? = some (bO n x.2.2.2.1) ∧ x.2.2.1[1]? = some (okO false) ∧ GW x.2.2.1 4 139 3 x.2.2.2.1 (x.1.map Ent.row)) ?_ ([], r, s, .nils, z, t) ⟨by simp, hR, hB, hl, hs2, hs0, hs1, gw_nil⟩
  clear hR hB hl hs2 hs0 hs1
  rintro ⟨es, r, s, u, z, t⟩ ⟨hec, hR, hB, hl, hs2, hs0, hs1, hu⟩ ih
  simp only at hec hR hB hl hs2 hs0 hs1 hu ih
  have h3 : 3 ≤ s.length := (List.getElem?_eq_some_iff.1 hs2).1
  refine x_rep (by delta D0.lp69_1; exact rfl) ?_
  have pan : ∀ (σ : St) (e : Env), entsR (c - es.length) r = none → (∀ k, k < 2 → σ[k]? = s[k]?) → e.get 2 = .ptr 0 0 0 → e.get 3 = .ptr 1 0 0 → DQ l (.pan e σ) := fun σ e hn hσ h2 h3' =>
    ⟨by rw [← hR, hn]; rfl, h2, h3', ⟨n, u, (hσ 0 (by omega)).trans hs0⟩, ⟨false, (hσ 1 (by omega)).trans hs1⟩⟩
  rcases Nat.lt_or_ge es.length c with h | h
  · obtain ⟨m, hm⟩ : ∃ m, c - es.length = m + 1 := ⟨c - es.length - 1, by omega⟩
    have hm' : m = c - (es.length + 1) := by omega
    rw [hm, entsR, entR] at hR
    rw [hm] at pan
    rw [entsR, entR] at pan
    cases hn1 : numR 4 r with
    | none =>
      rw [hn1] at pan
      simp only [go_sem, Nat.reduceEqDiff, reduceIte, Nat.reduceAdd, Nat.reduceMul, Nat.reduceLeDiff, lt_t h]
      exact xx_pan (num_none hs2 hl hB hn1) (pan _ _ rfl (fun _ _ => rfl) rfl rfl)
    | some p =>
    obtain ⟨a, r1⟩ := p
    rw [hn1] at pan hR
    simp only at pan hR
    obtain ⟨-, -, hB1, l1, z1, t1, h1⟩ := num_some hs2 hl hB hn1
    obtain ⟨s1, e1⟩ : ∃ s1, s1 = s.set 2 (rdO z1 t1 r1) := ⟨_, rfl⟩
    rw [← e1] at h1
    have n1 : s1.length = s.length := by rw [e1, List.length_set]
    have g1 : s1[2]? = some (rdO z1 t1 r1) := by rw [e1]; exact get_set2 (by omega)
    have f1 : ∀ k, k ≠ 2 → s1[k]? = s[k]? := fun k hk => by rw [e1, List.getElem?_set_ne (Ne.symm hk)]
    cases hn2 : numR 1073741824 r1 with
    | none =>
      rw [hn2] at pan
      simp only [go_sem, Nat.reduceEqDiff, reduceIte, Nat.reduceAdd, Nat.reduceMul, Nat.reduceLeDiff, lt_t h]
      refine xx_call (.thr h1) ?_
      simp only [go_sem, Nat.reduceEqDiff, reduceIte, Nat.reduceAdd, Nat.reduceMul, Nat.reduceLeDiff]
      exact xx_pan (num_none g1 (by omega) hB1 hn2) (pan _ _ rfl (fun k hk => f1 k (by omega)) rfl rfl)
    | some p =>
    obtain ⟨b, r2⟩ := p
    rw [hn2] at pan hR
    simp only at pan hR
    obtain ⟨-, -, hB2, l2, z2, t2, h2⟩ := num_some g1 (by omega) hB1 hn2
    obtain ⟨s2, e2⟩ : ∃ s2, s2 = s1.set 2 (rdO z2 t2 r2) := ⟨_, rfl⟩
    rw [← e2] at h2
    have n2 : s2.length = s.length := by rw [e2, List.length_set, n1]
    have g2 : s2[2]? = some (rdO z2 t2 r2) := by rw [e2]; exact get_set2 (by omega)
    have f2 : ∀ k, k ≠ 2 → s2[k]? = s[k]? := fun k hk => by rw [e2, List.getElem?_set_ne (Ne.symm hk), f1 k hk]
    cases hn3 : numR 7 r2 with
    | none =>
      rw [hn3] at pan
      simp only [go_sem, Nat.reduceEqDiff, reduceIte, Nat.reduceAdd, Nat.reduceMul, Nat.reduceLeDiff, lt_t h]
      refine xx_call (.thr h1) ?_
      simp only [go_sem, Nat.reduceEqDiff, reduceIte, Nat.reduceAdd, Nat.reduceMul, Nat.reduceLeDiff]
      refine xx_call (.thr h2) ?_
      simp only [go_sem, Nat.reduceEqDiff, reduceIte, Nat.reduceAdd, Nat.reduceMul, Nat.reduceLeDiff]
      exact xx_pan (num_none g2 (by omega) hB2 hn3) (pan _ _ rfl (fun k hk => f2 k (by omega)) rfl rfl)
    | some p =>
    obtain ⟨d, r3⟩ := p
    rw [hn3] at pan hR
    simp only at pan hR
    obtain ⟨-, -, hB3, l3, z3, t3, h3'⟩ := num_some g2 (by omega) hB2 hn3
    obtain ⟨s3, e3⟩ : ∃ s3, s3 = s2.set 2 (rdO z3 t3 r3) := ⟨_, rfl⟩
    rw [← e3] at h3'
    have n3 : s3.length = s.length := by rw [e3, List.length_set, n2]
    have g3 : s3[2]? = some (rdO z3 t3 r3) := by rw [e3]; exact get_set2 (by omega)
    have f3 : ∀ k, k ≠ 2 → s3[k]? = s[k]? := fun k hk => by rw [e3, List.getElem?_set_ne (Ne.symm hk), f2 k hk]
    obtain ⟨E0, hE0⟩ : ∃ E0, E0 = Ob.row [.int .i64 a, .nils, .int .i64 b, .int .i64 d] 139 0 0 := ⟨_, rfl⟩
    have g3' : (s3 ++ [E0])[2]? = some (rdO z3 t3 r3) := get_app_some g3
    cases hn4 : numR 4 r3 with
    | none =>
      rw [hn4] at pan
      have hp := num_none g3' (by omega) hB3 hn4
      rw [hE0] at hp
      simp only [go_sem, Nat.reduceEqDiff, reduceIte, Nat.reduceAdd, Nat.reduceMul, Nat.reduceLeDiff, lt_t h]
      refine xx_call (.thr h1) ?_
      simp only [go_sem, Nat.reduceEqDiff, reduceIte, Nat.reduceAdd, Nat.reduceMul, Nat.reduceLeDiff]
      refine xx_call (.thr h2) ?_
      simp only [go_sem, Nat.reduceEqDiff, reduceIte, Nat.reduceAdd, Nat.reduceMul, Nat.reduceLeDiff]
      refine xx_call (.thr h3') ?_
      simp only [go_sem, Nat.reduceEqDiff, reduceIte, Nat.reduceAdd, Nat.reduceMul, Nat.reduceLeDiff]
      exact xx_pan hp (pan _ _ rfl (fun k hk => by rw [List.getElem?_append_left (by omega), f3 k (by omega)]) rfl rfl)
    | some p =>
    obtain ⟨q, r4⟩ := p
    rw [hn4] at pan hR
    simp only at pan hR
    obtain ⟨q0, q4, hB4, l4, z4, t4, h4⟩ := num_some g3' (by omega) hB3 hn4
    obtain ⟨qn, rfl⟩ := Int.eq_ofNat_of_zero_le q0
    simp only [Int.toNat_natCast] at pan hR
    obtain ⟨s4, e4⟩ : ∃ s4, s4 = (s3 ++ [E0]).set 2 (rdO z4 t4 r4) := ⟨_, rfl⟩
    rw [← e4] at h4
    have n4 : s4.length = s.length + 1 := by rw [e4, List.length_set]; simp [n3]
    have g4 : s4[2]? = some (rdO z4 t4 r4) := by rw [e4]; exact get_set2 (by simp; omega)
    have k4 : s4[s3.length]? = some E0 := by rw [e4, List.getElem?_set_ne (by omega), List.getElem?_append_right (Nat.le_refl _), Nat.sub_self]; rfl
    have f4 : ∀ k, k < s3.length → k ≠ 2 → s4[k]? = s3[k]? := fun k hk hk2 => by rw [e4, List.getElem?_set_ne (Ne.symm hk2), List.getElem?_append_left hk]
    rw [hE0] at h4 k4
    simp only [go_sem, Nat.reduceEqDiff, reduceIte, Nat.reduceAdd, Nat.reduceMul, Nat.reduceLeDiff, lt_t h]
    refine xx_call (.thr h1) ?_
    simp only [go_sem, Nat.reduceEqDiff, reduceIte, Nat.reduceAdd, Nat.reduceMul, Nat.reduceLeDiff]
    refine xx_call (.thr h2) ?_
    simp only [go_sem, Nat.reduceEqDiff, reduceIte, Nat.reduceAdd, Nat.reduceMul, Nat.reduceLeDiff]
    refine xx_call (.thr h3') ?_
    simp only [go_sem, Nat.reduceEqDiff, reduceIte, Nat.reduceAdd, Nat.reduceMul, Nat.reduceLeDiff]
    refine xx_call (.thr h4) ?_
    simp only [go_sem, Nat.reduceEqDiff, reduceIte, Nat.reduceAdd, Nat.reduceMul, Nat.reduceLeDiff]
    refine keys_x (τ := s3) (T4 := r4) (R := keysR qn r4) (by omega) (by omega) (fun hn e σ h2 h3'' k0 k1 => ?_) (fun ks r5 s5 w z5 t5 hk hB5 hl5 hs5 hsj hw hj5 hf5 hkd => ?_) [] r4 s4 .nils z4 t4 (by simp) (joinK_nil _) hB4 (by omega) g4 k4 gw_nil (by omega) f4
    · refine pan σ e ?_ (fun k hk => ?_) h2 h3''
      · rw [hn]
      · rcases (show k = 0 ∨ k = 1 by omega) with rfl | rfl
        · rw [k0, f3 0 (by omega)]
        · rw [k1, f3 1 (by omega)]
    · rw [hk] at hR
      simp only at hR
      obtain ⟨s6, a6, n6, f6⟩ := rowf_ent hw a b d
      have c6 : ∀ k, k < s.length → k ≠ 2 → s6[k]? = s[k]? := fun k hk hk2 => by rw [f6 k (by omega), hf5 k (by omega) hk2, f3 k hk2]
      have hu6 : GW s6 4 139 3 u (es.map Ent.row) := gw_kp hu fun k hk hk2 => c6 k hk2 (by omega)
      obtain ⟨u', s7, a7, g7, l7, -, f7⟩ := gw_app (bytes := 48) (y := .lst 1 [[.int .i64 a, SL true 0 (ks.map krow), .int .i64 b, .int .i64 d]]) hu6 (by omega) rfl (by omega) (erows_len _) (by simp) (by simp; omega)
      have h05 : s5[0]? = some (.row [.int .i64 n, u] 61 0 0) := by rw [hf5 0 (by omega) (by omega), f3 0 (by omega)]; exact hs0
      have h07 : s7[0]? = some (.row [.int .i64 n, u] 61 0 0) := by rw [f7 0 (by omega), c6 0 (by omega) (by omega)]; exact hs0
      have hwc := gw_cell g7
      have hwb := gw_cell hw
      simp only [go_sem, Nat.reduceEqDiff, reduceIte, Nat.reduceAdd, Nat.reduceMul, Nat.reduceLeDiff, h05, hsj, hwb, a6, a7, h07, cells1 hwc, hwc, inc64 (show es.length < 9223372036854775807 by omega)]
      have hrow : es.map Ent.row ++ [[V.int .i64 a, SL true 0 (ks.map krow), V.int .i64 b, V.int .i64 d]] = (es ++ [(⟨a, ks, b, d, true, 0⟩ : Ent)]).map Ent.row := by simp [Ent.row, Ent.sl]
      rw [hrow] at g7
      refine X_keep (ih (es ++ [⟨a, ks, b, d, true, 0⟩], r5, s7.set 0 (bO n u'), u', z5, t5) (by simp; omega) ⟨by simp; omega, ?_, hB5, hl5, ?_, ?_, ?_, ?_⟩) (by first | rfl | (simp only [List.length_append, List.length_cons, List.length_nil]; done) | (simp only [List.length_append, List.length_cons, List.length_nil]; rfl))
      · simp only [List.length_append, List.length_cons, List.length_nil]
        rw [← hm', ← hR]
        cases entsR m r5 with
        | none => rfl
        | some q => simp [joinE]
      · simp only
        rw [List.getElem?_set_ne (by omega), f7 2 (by omega), f6 2 (by omega)]
        exact hs5
      · simp only
        exact List.getElem?_set_self (by omega)
      · simp only
        rw [List.getElem?_set_ne (by omega), f7 1 (by omega), c6 1 (by omega) (by omega)]
        exact hs1
      · simp only
        exact gw_set g7 (by omega)
  · have hed : es.length = c := by omega
    rw [hed, Nat.sub_self, entsR] at hR
    have hR' : decA l = some (n, es) := by rw [← hR]; simp [joinE]
    simp only [go_sem, Nat.reduceEqDiff, reduceIte, Nat.reduceAdd, Nat.reduceMul, Nat.reduceLeDiff, lt_f h]
    rw [hed]
    exact hok es s u hR' hs0 hs1 hu
theorem dec_x (z : Bool) (t : Nat) {l : List Int} (h4 : 4 ≤ l.length) (hl : l.length ≤ 1000000000) (hB : Byt l) :
    XW D0.T0 D0.P0 D0.pan [.c D0.rest] [(0, SL z t (bI l)), (2, .ptr 0 0 0), (3, .ptr 1 0 0)] [bO 0 .nils, okO false] (DQ l) := by
  obtain ⟨za, ta, ca⟩ := sl_cut_hi z t 1 (bI l) .i64 4 (by rw [bI_n]; exact h4)
  obtain ⟨zb, tb, cb⟩ := sl_cut_lo z t 1 (bI l) .i64 4 (by rw [bI_n]; exact h4) (bI_len l)
  have ea : (bI l).take 4 = bI (l.take 4) := by unfold bI; rw [List.map_take]
  have eb : (bI l).drop 4 = bI (l.drop 4) := by unfold bI; rw [List.map_drop]
  rw [ea] at ca
  rw [eb] at cb
  have ca : slcV 1 (SL z t (bI l)) none (some (.int .i64 4)) none = some (SL za ta (bI (l.take 4))) := ca
  have cb : slcV 1 (SL z t (bI l)) (some (.int .i64 4)) none none = some (SL zb tb (bI (l.drop 4))) := cb
  have rb := rowsByte_bI (byt_take hB 4)
  unfold bO okO
  dsimp only [D0.rest, D0.af69]
  by_cases hm : l.take 4 = magI
  · have fb : (byt (l.take 4) == [73, 66, 76, 49]) = true := by rw [hm]; rfl
    have hdec : decA l = match numR 1073741824 (l.drop 4) with
      | some (n, r1) => match numR 64 r1 with
        | some (c, r2) => match entsR c.toNat r2 with
          | some (es, _) => some (n, es)
          | none => none
        | none => none
      | none => none := by unfold decA; rw [if_pos hm]; rfl
    have hBd := byt_drop hB 4
    have hld : (l.drop 4).length ≤ 1000000000 := by simp; omega
    cases hn1 : numR 1073741824 (l.drop 4) with
    | none =>
      rw [hn1] at hdec
      have hp := num_none (σ := [.row [.int .i64 0, .nils] 61 0 0, .row [.bool false] 4 0 0, rdO zb tb (l.drop 4)]) (b := 2) rfl hld hBd hn1
      unfold rdO at hp
      simp only [go_sem, Nat.reduceEqDiff, reduceIte, Nat.reduceAdd, Nat.reduceMul, Nat.reduceLeDiff, ca, rb, fb, cb]
      exact xx_pan hp ⟨hdec, rfl, rfl, ⟨0, .nils, rfl⟩, ⟨false, rfl⟩⟩
    | some p =>
      obtain ⟨n, r1⟩ := p
      rw [hn1] at hdec
      simp only at hdec
      obtain ⟨-, -, hB1, l1, z1, t1, h1⟩ := num_some (σ := [.row [.int .i64 0, .nils] 61 0 0, .row [.bool false] 4 0 0, rdO zb tb (l.drop 4)]) (b := 2) rfl hld hBd hn1
      have h1 : Th D0.T0 D0.P0 122 [.ptr 2 0 0, .int .i64 1073741824] [.row [.int .i64 0, .nils] 61 0 0, .row [.bool false] 4 0 0, .row [SL zb tb (bI (l.drop 4))] 197 0 0] (.int .i64 n) [.row [.int .i64 0, .nils] 61 0 0, .row [.bool false] 4 0 0, rdO z1 t1 r1] := h1
      cases hn2 : numR 64 r1 with
      | none =>
        rw [hn2] at hdec
        have hp := num_none (σ := [.row [.int .i64 n, .nils] 61 0 0, .row [.bool false] 4 0 0, rdO z1 t1 r1]) (b := 2) rfl (by omega) hB1 hn2
        simp only [go_sem, Nat.reduceEqDiff, reduceIte, Nat.reduceAdd, Nat.reduceMul, Nat.reduceLeDiff, ca, rb, fb, cb]
        refine xx_call (.thr h1) ?_
        simp only [go_sem, Nat.reduceEqDiff, reduceIte, Nat.reduceAdd, Nat.reduceMul, Nat.reduceLeDiff]
        exact xx_pan hp ⟨hdec, rfl, rfl, ⟨n, .nils, rfl⟩, ⟨false, rfl⟩⟩
      | some p =>
        obtain ⟨c, r2⟩ := p
        rw [hn2] at hdec
        simp only at hdec
        obtain ⟨c0, c64, hB2, l2, z2, t2, h2⟩ := num_some (σ := [.row [.int .i64 n, .nils] 61 0 0, .row [.bool false] 4 0 0, rdO z1 t1 r1]) (b := 2) rfl (by omega) hB1 hn2
        obtain ⟨cn, rfl⟩ := Int.eq_ofNat_of_zero_le c0
        simp only [Int.toNat_natCast] at hdec
        simp only [go_sem, Nat.reduceEqDiff, reduceIte, Nat.reduceAdd, Nat.reduceMul, Nat.reduceLeDiff, ca, rb, fb, cb]
        refine xx_call (.thr h1) ?_
        simp only [go_sem, Nat.reduceEqDiff, reduceIte, Nat.reduceAdd, Nat.reduceMul, Nat.reduceLeDiff]
        refine xx_call (.thr h2) ?_
        simp only [go_sem, Nat.reduceEqDiff, reduceIte, Nat.reduceAdd, Nat.reduceMul, Nat.reduceLeDiff]
        refine ents_x (n := n) (c := cn) (by omega) (fun es s u hR h0 h1' hu => ?_) r2 _ z2 t2 ?_ hB2 (by omega) rfl rfl rfl
        · have hwc := gw_cell hu
          have hs0 : s[0]? = some (.row [.int .i64 n, u] 61 0 0) := h0
          have hl0 := (List.getElem?_eq_some_iff.1 h0).1
          have hl1 := (List.getElem?_eq_some_iff.1 h1').1
          have hs1 : (s.set 0 (.row [.int .i64 n, u] 61 0 0))[1]? = some (.row [.bool false] 4 0 0) := by rw [List.getElem?_set_ne (by omega)]; exact h1'
          simp only [go_sem, Nat.reduceEqDiff, reduceIte, Nat.reduceAdd, Nat.reduceMul, Nat.reduceLeDiff, hs0, hwc, hs1]
          refine ⟨n, es, u, hR, rfl, rfl, ?_, ?_, ?_⟩
          · rw [List.getElem?_set_ne (by omega)]
            exact List.getElem?_set_self hl0
          · exact List.getElem?_set_self (by rw [List.length_set]; exact hl1)
          · exact gw_set (gw_set hu (by omega)) (by omega)
        · rw [hdec]
          cases entsR cn r2 with
          | none => rfl
          | some q => rfl
  · have fb : (byt (l.take 4) == [73, 66, 76, 49]) = false := by
      have : ¬ byt (l.take 4) = [73, 66, 76, 49] := fun hh => hm (by rw [← str_byt (byt_take hB 4), hh]; rfl)
      simpa using this
    have hdec : decA l = none := by unfold decA; rw [if_neg hm]
    simp only [go_sem, Nat.reduceEqDiff, reduceIte, Nat.reduceAdd, Nat.reduceMul, Nat.reduceLeDiff, ca, rb, fb]
    exact xx_pan (.panF rfl) ⟨hdec, rfl, rfl, ⟨0, .nils, rfl⟩, ⟨false, rfl⟩⟩
end Go.Proofs.YtikkmcchhddfoaaGreatDoor.KM
